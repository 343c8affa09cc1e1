/- Texts T5 T6 T7 T8 T9 (made short by a program) -/
import Derived.Test.YtkmclibmmlgogaaGreatT1
import Derived.Test.YtkmclibmmlgogaaGreatX6
set_option linter.unusedVariables false
set_option linter.unusedSimpArgs false
open Bool renaming and_eq_true → b5, false_eq_true → b7, not_eq_false' → B4, not_eq_true' → j9
open List renaming map_cons → G7, mem_cons → B8, mem_singleton → p8, take_of_length_le → s6
open Nat renaming beq → y4, eq_of_beq_eq_true → b8, le_of_ble_eq_true → m6, lt_or_ge → p7
namespace Go.Proofs.YtkmclibmmlgogaaGreat
open Go.u7 Go.u7.S
attribute [local irreducible] Rx Ry Rn Ex Pf
theorem xm {e:List Z2}{ty:List Int}(h:o8 (E4 e ty).2 0=true):good (E4 e ty).1:=by
 unfold E4 at h ⊢;split at h
 ·simp [j5] at h
 ·rename_i a ha
  split at h
  ·rename_i dy
   rw [if_pos dy];have hwf:a.wf:=by
    unfold eo at ha;split at ha
    ·split at ha
     ·rename_i b hb
      cases ha;exact (Q5 16 _ _ _ hb).2.1
     ·cases ha
    ·cases ha
   exact Ep dy a hwf h
  ·simp [j5] at h
theorem RP {c:m9}{n:Nat}:∀ (k i:Nat),bD c n k i=0->∀ j,i<=j->j<i+k->X6 c n j=0
 |0,i,_,j,h1,h2=>by omega
 |k+1,i,h,j,h1,h2=>by
  unfold bD at h;cases he:o8 (X6 c n i) 0 with
  |false =>
   rw [he] at h;simp only [Bool.not_false,if_true] at h;simp [j5,h] at he
  |true =>
   rw [he] at h;simp only [Bool.not_true,b7,if_false] at h
   by_cases hj:j=i
   ·subst hj;exact X2 he
   ·exact RP k (i+1) h j (by omega) (by omega)
theorem Of {c:m9}{k:Nat}(h:cU c k=0):1<=(nth c.j3 k).m8.length/\(nth c.j3 k).m8.length<=8/\∀ x,x ∈ (nth c.j3 k).m8->good x.type:=by
 unfold cU at h;cases hc:(!n7 (nth c.j3 k).m8.length 1 8|| !n7 (nth c.j3 k).erase 0 1|| !n7 (nth c.j3 k).X9 0 1048576) with
 |true=>rw [hc] at h;simp at h
 |false =>
  rw [hc] at h;simp only [b7,if_false] at h;simp only [Bool.or_eq_false_iff,B4,n7,b5,o5,decide_eq_true_eq] at hc;refine ⟨by omega,by omega,fun x hx=> ?_⟩;obtain ⟨j,hj,rfl⟩:=List.getElem_of_mem hx;have h1:=RP _ _ h j (by omega) (by omega);rw [<- N6 hj];unfold X6 at h1
  by_cases hg:good (nth (nth c.j3 k).m8 j).type
  ·exact hg
  ·exfalso
   have ht:(!o8 (nth (nth c.j3 k).m8 j).type 1&& !o8 (nth (nth c.j3 k).m8 j).type 2)=true:=by
    unfold good at hg;simp only [j5,b5,j9,beq_eq_false_iff_ne];exact ⟨fun e=>hg (.inl e),fun e=>hg (.inr e)⟩
   rw [ht] at h1;split at h1
   ·omega
   ·split at h1
    ·omega
    ·split at h1
     ·omega
     ·simp at h1
theorem nX {ty:List Int}:∀ (l:List FA) (seen:List C7),U4 ty seen l=0->∀ e,e ∈ l->(e.agg&&o8 e.f 0)=true\/o8 (E4 e.expr ty).2 0=true
 |[],_,_,e,he=>by cases he
 |a::l,seen,h,e,he=>by
  unfold U4 at h;split at h
  ·omega
  ·split at h
   ·omega
   ·split at h
    ·omega
    ·split at h
     ·rename_i h0
      rcases B8.1 he with rfl|he
      ·exact .inl h0
      ·exact nX l _ h e he
     ·split at h
      ·rename_i h1
       rw [h] at h1;simp [j5] at h1
      ·rename_i h1
       split at h
       ·omega
       ·rcases B8.1 he with rfl|he
        ·exact .inr (by simpa using h1)
        ·exact nX l _ h e he
theorem rC {c:m9}(hv:M7 c=true):∀ (n k:Nat),k<n->k<m9.ns c->1<=(P8 c k).length/\(P8 c k).length<=8/\∀ x,x ∈ P8 c k->good x
 |0,k,h,_=>by omega
 |n+1,k,h,hk=>by
  obtain ⟨h1,_,h3⟩:=mh hv;have aN:m9.ns c=c.j3.length+c.views.length:=rfl;have hnl:=Z9 c;have he:=h1 k (by omega)
  rcases p7 k c.j3.length with ht|ht
  ·obtain ⟨a1,a2,a3⟩:=Of (dU he ht)
   have e:P8 c k=(nth c.j3 k).m8.map W6.type:=by unfold P8 gh;rw [if_pos ht]
   rw [e];refine ⟨by simpa using a1,by simpa using a2,fun x hx=> ?_⟩;obtain ⟨y,hy,rfl⟩:=List.mem_map.1 hx;exact a3 y hy
  ·have KB:=bH he ht hk
   unfold U3 at KB;split at KB
   ·omega
   ·split at KB
    ·omega
    ·rename_i hl
     split at KB
     ·omega
     ·rename_i hsh
      simp only [Bool.not_eq_true,B4,j9,Bool.not_eq_false] at hsh;have hf:=G8 c (T8 c k).left k;split at KB
      ·rename_i h2
       have e:P8 c k=P8 c (D4 c (T8 c k).left k).toNat:=by
        have h0:0<=D4 c (T8 c k).left k:=by
         simp only [Bool.or_eq_true,o9,decide_eq_true_eq,not_or] at hl;omega
        conv=>lhs;unfold P8 gh
        rw [if_neg (by omega),show (nth c.views (k - c.j3.length))=T8 c k from rfl,if_pos h2,U1 c (by omega)]
       have h0:0<=D4 c (T8 c k).left k:=by
        simp only [Bool.or_eq_true,o9,decide_eq_true_eq,not_or] at hl;omega
       rw [e];exact rC hv n _ (by omega) (by omega)
      ·rename_i h2
       split at KB
       ·rename_i hp
        rw [KB] at hp;simp [j5] at hp
       ·split at KB
        ·rename_i hw
         rw [KB] at hw;simp [j5] at hw
        ·split at KB
         ·omega
         ·have e:P8 c k=V2 (T8 c k) (ins c k):=by
           unfold P8 gh;rw [if_neg (by omega),show (nth c.views (k - c.j3.length))=T8 c k from rfl,if_neg h2];rfl
          have hlen:1<=(T8 c k).items.length+(T8 c k).B3.length/\(T8 c k).items.length+(T8 c k).B3.length<=8:=by
           unfold bT lV at hsh;rw [if_neg h2] at hsh;split at hsh<;>simp only [b5,j9,Bool.or_eq_false_iff,j5,beq_eq_false_iff_ne,o5,decide_eq_true_eq] at hsh<;>omega
          have hg:=nX _ _ KB;rw [e];refine ⟨by simp [V2];omega,by simp [V2];omega,fun x hx=> ?_⟩;simp only [V2,List.mem_append,List.mem_map] at hx
          rcases hx with ⟨y,hy,rfl⟩|⟨y,hy,rfl⟩
          ·rcases hg ⟨false,y.name, -1,y.expr⟩ (List.mem_append_left _ (List.mem_map.2 ⟨y,hy,rfl⟩)) with h|h
           ·simp at h
           ·exact xm h
          ·unfold oO
           split
           ·exact .inl rfl
           ·rename_i h0
            rcases hg ⟨true,y.name,y.func,y.expr⟩ (List.mem_append_right _ (List.mem_map.2 ⟨y,hy,rfl⟩)) with h|h
            ·simp only [Bool.true_and] at h
             rw [h] at h0;simp at h0
            ·exact xm h
theorem Db {s:C7}:∀ (l:List C7) (i:Nat),s ∈ l->(i:Int)<=A8 s l i/\A8 s l i<i+l.length
 |[],_,h=>by cases h
 |x::r,i,h=>by
  simp only [A8];split
  ·simp;omega
  ·rename_i hx
   rcases B8.1 h with rfl|h
   ·simp [A3] at hx
   ·have:=Db r (i+1) h
    simp at this ⊢;omega
theorem PT {c:m9}(hv:M7 c=true){s:C7}(h:s ∈ m9.sn c):∃ i:Nat,Ku c s=(i:Int)/\i<m9.ns c:=by
 have hl:=Q2 c;have h1:=Db (m9.sn c) 0 h;have e:Ku c s=A8 s (m9.sn c) 0:=by
  unfold Ku D4;rw [hv,if_pos rfl,s6 (by omega)]
 rw [e];refine ⟨(A8 s (m9.sn c) 0).toNat,by omega,by omega⟩
theorem lu {c:m9}(hv:M7 c=true){i:Nat}(hi:i<m9.ns c):dA c i=true:=by
 unfold dA;rw [hv];simp [o5,o9];omega
end Go.Proofs.YtkmclibmmlgogaaGreat
namespace Go.u7.Sh
mutual
def SD.np:SD->Bool
 | .slice _ _ _ row=>D7.np row
 | .pr _ _=>false
 |_=>true
def D7.np:List SD->Bool
 |[]=>true
 |x::xs=>x.np&&D7.np xs
end
mutual
theorem SD.cx {C C' :Ctx}{vs:List Nat}:∀ (x:SD) {d:Data},x.np=true->x.g C vs d->x.g C' vs d
 | .top,_,_,_=>by simp [SD.g]
 | .lit _,_,_,h=>by simpa only [SD.g] using h
 | .bool _,_,_,h=>by simpa only [SD.g] using h
 | .int ..,_,_,h=>by simpa only [SD.g] using h
 | .anyI _,_,_,h=>by simpa only [SD.g] using h
 | .str _,_,_,h=>by simpa only [SD.g] using h
 | .slice v lo hi row,_,hp,h=>by
  simp only [SD.np] at hp;simp only [SD.g] at h ⊢;obtain ⟨rows,h1,h2,h3,h4,h5⟩:=h;exact ⟨rows,h1,h2,h3,h4,fun r hr=>D7.cx row hp (h5 r hr)⟩
 | .pr _ _,_,hp,_=>by simp [SD.np] at hp
theorem D7.cx {C C' :Ctx}{vs:List Nat}:∀ (x:List SD) {d:List Data},D7.np x=true->D7.g C vs x d->D7.g C' vs x d
 |[],_,_,h=>by simpa only [D7.g] using h
 |x::xs,_,hp,h=>by
  simp only [D7.np,b5] at hp;simp only [D7.g] at h ⊢;obtain ⟨d,ds,h1,h2,h3⟩:=h;exact ⟨d,ds,h1,SD.cx x hp.1 h2,D7.cx xs hp.2 h3⟩
end
end Go.u7.Sh
namespace Go.Proofs.YtkmclibmmlgogaaGreat
open Go.u7 Go.u7.S Go.u7.Sh
attribute [local irreducible] Rx Ry Rn Ex Pf
def pS:SD:= .pr 0 (.str 2)
def QM:List SD:=[.str 2,iR 0 2,.str 2,.str 2,.slice none 0 1 [iR 0 23,iR 0 23],.slice none 0 13 VS,.slice none 0 3 [.str 2,.slice none 1 4 VS],.bool .qU,.slice none 0 3 [.str 2,iR 0 4,.slice none 0 4 VS]]
def r2:List SD:=[.str 2,.str 2,iR 0 2]
def r3:List SD:=[.str 2,.str 2,iR 0 2,iR 0 2,iR 0 16,iR 0 3]
def r4:List SD:=[.str 2,.str 2,iR 0 2,iR 0 9]
def r5:List SD:=[.str 2,.str 2,iR 0 3]
def r6:List SD:=[.str 2,.str 2]
def r7:List SD:=[.str 2,.slice none 0 1 [.str 2],iR 0 30]
def e1 (r:List SD):SD:= .slice none 0 0 r
def rB (n:Nat):List SD:=[.slice none 1 3 QK,.slice none 0 n QM,e1 r2,e1 r3,e1 r4,e1 r5,e1 r6,e1 r7]
def cG (n:Nat):SV:= .agg (some 1) [.d (.slice none 1 3 [pS,.slice none 2 4 YV,iR 0 1,iR 0 40]),.d (.slice none 0 n QM),.d (e1 r2),.d (e1 r3),.d (e1 r4),.d (e1 r5),.d (e1 r6),.d (e1 r7)]
def vwV:SV:= .agg none (QM.map .d)
def s76:Sh.Spec:=⟨76,[.ptr 0 0,cG 4,.d (.slice none 1 7 [pS])],[.pr 0],l1,[(vwV,[.pr 0])]⟩
def VO:SV->Bool
 | .d _=>true
 |_=>false
def Vg:Sh.Sem:=fun _ f args H l=>match args,H with
 |[.agg (some 1) c,.d (.pr k (.str m))],[]=>if y4 f 51&&y4 k 0&&pQ l l0&&c.all VO then some [(.d (.pr 1 (iR 0 2000)),[])] else none
 |[.agg (some 1) c,.d (.pr k (.int _ _ _ _))],[]=>if y4 f 54&&y4 k 1&&pQ l l0&&c.all VO then some [(.d (.slice none 1 8 [iR 1 2]),[])] else none
 |_,_=>none
theorem LL {C:Ctx}{vs:List Nat}:∀ {l:List SV} {cs:List b6},r9.g C vs l cs->l.all VO=true->cs.map b6.F2=cs
 |[],_,h,_=>by simp only [r9.g] at h;subst h;rfl
 |x::xs,_,h,hd=>by
  simp only [r9.g] at h;obtain ⟨a,b,rfl,h1,h2⟩:=h;simp only [List.all_cons,b5] at hd;cases x<;>simp only [VO,b7,false_and] at hd;obtain ⟨d,rfl,_⟩:=Z4 h1;simp only [G7,b6.F2];rw [LL h2 hd.2]
theorem vG {l:F9}(h:pQ l l0=true):l=bK:=by
 simp only [pQ,b5] at h;have e1:=b8 h.1.1.1;have e2:=b8 h.1.1.2;have e3:=b8 h.1.2;have e4:=b8 h.2;cases l;simp only [l0] at e1 e2 e3 e4;subst e1 e2 e3 e4;rfl
theorem Ns {f:FuncId}{args:List b6}{v:b6}{P:b6->o6->Prop}(h:Pf A f args v)(hP:P v []):Pq A f args [] bK P:=⟨v,[],hP,by unfold Pf at h;exact h⟩
theorem Rh (xs:List Int){g:m9}(hs:E8 g)(hv:M7 g=true):fe (dn xs g) A Vg:=by
 intro B f args H l outs h vs hB az Hc ha hH;have aN:m9.ns g<=1000+1000:=by obtain ⟨f0,f1,_⟩:=hs.sm.fI;unfold m9.ns;omega
 unfold Vg at h;split at h
 ·rename_i c k m
  split at h
  ·rename_i hc
   simp only [b5] at hc;obtain ⟨⟨⟨c1,c2⟩,c3⟩,c4⟩:=hc;have c1:=b8 c1;have c2:=b8 c2;subst c1 c2;cases h;rw [vG c3];simp only [r9.g] at ha;obtain ⟨a0,_,rfl,h0,a1,_,rfl,h1,rfl⟩:=ha;simp only [E7.g] at hH;subst hH;simp only [SV.g] at h0;obtain ⟨cs,rfl,h2,h3⟩:=h0;have h4:cs.map b6.F2=g.enc.map .d:=h3 1 rfl;rw [LL h2 c4] at h4;subst h4;obtain ⟨d,rfl,h5⟩:=Z4 h1;simp only [SD.g] at h5;obtain ⟨s,rfl,hm⟩:=h5.1;obtain ⟨i,e,hi⟩:=PT hv hm;have p:=as9 g hs s;rw [e] at p;refine Ns p ⟨_,p8.2 rfl,bf ?_,by simp only [E7.g]⟩;simp only [SD.g,iR];exact ⟨⟨i,rfl,hi⟩,(i:Int),rfl,by omega,by omega,trivial⟩
  ·cases h
 ·rename_i c k kk lo hi r
  split at h
  ·rename_i hc
   simp only [b5] at hc;obtain ⟨⟨⟨c1,c2⟩,c3⟩,c4⟩:=hc;have c1:=b8 c1;have c2:=b8 c2;subst c1 c2;cases h;rw [vG c3];simp only [r9.g] at ha;obtain ⟨a0,_,rfl,h0,a1,_,rfl,h1,rfl⟩:=ha;simp only [E7.g] at hH;subst hH;simp only [SV.g] at h0;obtain ⟨cs,rfl,h2,h3⟩:=h0;have h4:cs.map b6.F2=g.enc.map .d:=h3 1 rfl;rw [LL h2 c4] at h4;subst h4;obtain ⟨d,rfl,h5⟩:=Z4 h1;simp only [SD.g] at h5;obtain ⟨i,rfl,hi⟩:=h5.1;have p:=YO g hs i (lu hv hi);rw [Int.toNat_natCast] at p;obtain ⟨g1,g2,g3⟩:=rC hv (i+1) i (by omega) hi;refine Ns p ⟨_,p8.2 rfl,bf ?_,by simp only [E7.g]⟩;simp only [SD.g];refine ⟨(P8 g i).map fun t=>[num t],?_,by simpa using g1,by simpa using g2,(fun i h=>by cases h),fun r hr=> ?_⟩
   ·simp only [ints,List.length_map]
    congr 1
   ·obtain ⟨t,ht,rfl⟩:=List.mem_map.1 hr
    simp only [D7.g,SD.g,iR];refine ⟨num t,[],rfl,⟨t,rfl,?_,?_,trivial⟩,rfl⟩
    ·rcases g3 t ht with h|h<;>omega
    ·rcases g3 t ht with h|h<;>omega
  ·cases h
 ·cases h
theorem chunk {α:Type}{enc:α->List u7.Data}{sz:Nat}(hs:∀ a,(enc a).length=sz):∀ (rows:List (List u7.Data)) (l:List α),rows.length=l.length->(∀ r,r ∈ rows->r.length=sz)->rows.flatten=l.flatMap enc->rows=l.map enc
 |[],[],_,_,_=>rfl
 |[],_::_,h,_,_=>by simp at h
 |_::_,[],h,_,_=>by simp at h
 |r::rows,a::l,h,hr,e=>by
  simp only [List.flatten_cons,List.flatMap_cons] at e;have h1:=List.append_inj e (by rw [hr r (by simp),hs a]);rw [h1.1,chunk hs rows l (by simpa using h) (fun r hr' =>hr r (by simp [hr'])) h1.2];rfl
section
variable {C:Ctx} {vs:List Nat} {α:Type} {enc:α->List u7.Data}
theorem BF {v:Option Nat}{lo hi:Nat}{row:List SD}{l:List α}(h:(SD.slice v lo hi row).g C vs (y7 enc l))(hs:∀ a,(enc a).length=row.length:=by intro;rfl):lo<=l.length/\l.length<=hi/\∀ a,a ∈ l->D7.g C vs row (enc a):=by
 simp only [SD.g] at h;obtain ⟨rows,h1,h2,h3,_,h5⟩:=h;unfold y7 at h1;injection h1 with e1 e2
 have:=chunk hs rows l e1.symm (fun r hr=>D7.len (h5 r hr)) e2.symm;subst this;exact ⟨by omega,by omega,fun a ha=>h5 _ (List.mem_map.2 ⟨a,ha,rfl⟩)⟩
theorem GB {lo hi:Nat}{row:List SD}{l:List α}(h1:lo<=l.length)(h2:l.length<=hi)(h3:∀ a,a ∈ l->D7.g C vs row (enc a)):(SD.slice none lo hi row).g C vs (y7 enc l):=by
 simp only [SD.g];refine ⟨l.map enc,?_,by simpa using h1,by simpa using h2,(fun i h=>by cases h),fun r hr=> ?_⟩
 ·simp only [y7,List.length_map,List.flatMap]
 ·obtain ⟨a,ha,rfl⟩:=List.mem_map.1 hr
  exact h3 a ha
end
structure Bt (n:Nat)(c:m9):Prop where
 sh:∀ C vs,D7.g C vs (rB n) c.enc
 val:M7 c=true
 sm:E8 c
theorem Bt.of {C:Ctx}{vs:List Nat}{n:Nat}{c:m9}(h:D7.g C vs (rB n) c.enc)(hp:D7.np (rB n)=true)(hc:D7.cl (rB n)=true)(hv:M7 c=true)(hs:E8 c):Bt n c:=⟨fun _ _=>D7.bG _ hc (D7.cx _ hp h),hv,hs⟩
theorem YU (n:Nat):D7.np (rB n)=true:=by rfl
theorem YT (n:Nat):D7.cl (rB n)=true:=by rfl
section
variable {n:Nat} {c:m9} (h:Bt n c)
include h
theorem Bt.j3:1<=c.j3.length/\c.j3.length<=3/\∀ C vs a,a ∈ c.j3->D7.g C vs QK a.enc:=by
 have h1:∀ C vs,(SD.slice none 1 3 QK).g C vs (y7 er.enc c.j3):=fun C vs=>by
  have:=h.sh C vs;unfold rB m9.enc at this;obtain ⟨x,y,e,h1,_⟩:=sc this;cases e;exact h1
 have h2:=BF (h1 (dn [] c) []);exact ⟨h2.1,h2.2.1,fun C vs a ha=>(BF (h1 C vs)).2.2 a ha⟩
theorem Bt.views:c.views.length<=n/\∀ C vs a,a ∈ c.views->D7.g C vs QM a.enc:=by
 have h1:∀ C vs,(SD.slice none 0 n QM).g C vs (y7 Vw.enc c.views):=fun C vs=>by
  have:=h.sh C vs;unfold rB m9.enc at this;obtain ⟨x,y,e,_,h2⟩:=sc this;cases e;obtain ⟨x,y,e,h1,_⟩:=sc h2;cases e;exact h1
 have h2:=BF (h1 (dn [] c) []);exact ⟨h2.2.1,fun C vs a ha=>(BF (h1 C vs)).2.2 a ha⟩
end
def Ri:Sh.Sem:=fun _ f args H l=>match args,H with
 |[.agg (some 1) c],[]=>if y4 f 34&&pQ l l0&&c.all VO then some [(.d (.slice none 1 7 [pS]),[])] else none
 |_,_=>none
theorem as8 (c:m9)(hf:c.fI):Pf A 34 [cat c] (.d (y7 encS (m9.sn c))):=by
 obtain ⟨f0,f1,_⟩:=hf;refine Pf.run [cat c,.any,.any,.any,.any,.any] rfl rfl rfl rfl ?_;refine gr ?_;refine Ex.I7 (fun k T H=>∃ (i:Nat) (acc:List C7) (v0 v2 w5:b6),T=[v0,.ptr 0 0,v2,A5 1 encS acc,.d (num i),w5]/\H=[.cells (c.enc.map .d)]/\i+k=c.j3.length/\acc=(c.j3.take i).map er.name) (by rintro _ _ _ ⟨_,_,_,_,_,_,rfl,_⟩;rfl) ?_ (k:=c.j3.length) ⟨0,[],_,_,_,rfl,rfl,by simp,by simp⟩;rintro k _ _ ⟨i,acc,v0,v2,w5,rfl,rfl,hk,hacc⟩;have hl:acc.length=i:=by rw [hacc];simp;omega
 refine Ex.nT ?_
 repeat' (first|refine gx ?_|refine Ex.J6 ?_|refine Ex.J8 ?_|refine Ex.cond rfl (fun ht=> ?_) (fun ht=> ?_)|refine Ex.test (Rn.text ?_)|refine Ex.test (Rn.draw ?_)|refine ⟨_,rfl,fun ht=> ?_,fun ht=> ?_⟩|refine ⟨_,rfl,?_⟩|fail)
 ·have h1:=z6 ht
  refine ⟨k - 1,by omega,i+1,acc++[(nth c.j3 i).name],_,_,_,rfl,rfl,by omega,?_⟩;rw [I6 (by omega),hacc];simp
 have h1:=z8 ht;rw [s6 (by omega)] at hacc;clear ht h1 hk hl;subst hacc;refine Ex.I7 (fun k T H=>∃ (i:Nat) (acc:List C7) (v0 v2 w4:b6),T=[v0,.ptr 0 0,v2,A5 1 encS acc,w4,.d (num i)]/\H=[.cells (c.enc.map .d)]/\i+k=c.views.length/\acc=c.j3.map er.name++(c.views.take i).map Vw.name) (by rintro _ _ _ ⟨_,_,_,_,_,_,rfl,_⟩;rfl) ?_ (k:=c.views.length) ⟨0,c.j3.map er.name,_,_,_,rfl,rfl,by simp,by simp⟩;rintro k _ _ ⟨i,acc,v0,v2,w4,rfl,rfl,hk,hacc⟩;have hl:acc.length=c.j3.length+i:=by rw [hacc];simp;omega
 refine Ex.nT ?_
 repeat' (first|refine gx ?_|refine Ex.J6 ?_|refine Ex.J8 ?_|refine Ex.cond rfl (fun ht=> ?_) (fun ht=> ?_)|refine Ex.test (Rn.text ?_)|refine Ex.test (Rn.draw ?_)|refine ⟨_,rfl,fun ht=> ?_,fun ht=> ?_⟩|refine ⟨_,rfl,?_⟩|fail)
 ·have h1:=z6 ht
  refine ⟨k - 1,by omega,i+1,acc++[(nth c.views i).name],_,_,_,rfl,rfl,by omega,?_⟩;rw [I6 (by omega),hacc];simp
 have h1:=z8 ht;rw [s6 (by omega)] at hacc;clear ht h1 hk hl;subst hacc;simp [b9,y7,A5,m9.sn]
theorem Bt.name {n:Nat}{c:m9}(h:Bt n c){s:C7}(hs:s ∈ m9.sn c):s.length<=2:=by
 unfold m9.sn at hs
 rcases List.mem_append.1 hs with hs|hs
 ·obtain ⟨t,ht,rfl⟩:=List.mem_map.1 hs
  have:=h.j3.2.2 (dn [] c) [] t ht;unfold QK er.enc at this;obtain ⟨x,y,e,h1,_⟩:=sc this;cases e;simp only [SD.g] at h1;obtain ⟨s,e,h2⟩:=h1;cases e;exact h2
 ·obtain ⟨t,ht,rfl⟩:=List.mem_map.1 hs
  have:=h.views.2 (dn [] c) [] t ht;unfold QM Vw.enc at this;obtain ⟨x,y,e,h1,_⟩:=sc this;cases e;simp only [SD.g] at h1;obtain ⟨s,e,h2⟩:=h1;cases e;exact h2
theorem IA (xs:List Int){n:Nat}{g:m9}(hg:Bt n g)(hn:n<=4):fe (dn xs g) A Ri:=by
 intro B f args H l outs h vs hB az Hc ha hH;unfold Ri at h;split at h
 ·rename_i c
  split at h
  ·rename_i hc
   simp only [b5] at hc;obtain ⟨⟨c1,c3⟩,c4⟩:=hc;have c1:=b8 c1;subst c1;cases h;rw [vG c3];simp only [r9.g] at ha;obtain ⟨a0,_,rfl,h0,rfl⟩:=ha;simp only [E7.g] at hH;subst hH;simp only [SV.g] at h0;obtain ⟨cs,rfl,h2,h3⟩:=h0;have h4:cs.map b6.F2=g.enc.map .d:=h3 1 rfl;rw [LL h2 c4] at h4;subst h4;have ht:=hg.j3;have hw:=hg.views;have hl:=Q2 g;have kU:m9.ns g=g.j3.length+g.views.length:=rfl;refine Ns (as8 g hg.sm.sm.fI) ⟨_,p8.2 rfl,bf (GB (by omega) (by omega) fun s hs=> ?_),by simp only [E7.g]⟩;simp only [D7.g,SD.g,encS,pS];exact ⟨_,_,rfl,⟨⟨s,rfl,hs⟩,s,rfl,hg.name hs⟩,rfl⟩
  ·cases h
 ·cases h
def av5 (l:List Sh.Spec):Sh.Sem:=wE (wE Vg Ri) (Vh l)
section
variable {xs:List Int} (hx:xs.length<=35184372088832) {g:m9} {n:Nat} (hg:Bt n g) (hn:n<=4)
include hx hg hn
theorem Rk {l:List Sh.Spec}(h:gC (dn xs g) l):fe (dn xs g) A (av5 l):=lS (lS (Rh xs hg.sm hg.val) (IA xs hg hn)) (uu hx h)
theorem o76:s76.ok (dn xs g) A :=
 ur (kp:=[]) (js:=[]) (fuel:=40) (Rk hx hg hn (.cons (VP hx g) (.cons (ar6 hx g) (.cons (MT hx g) (.cons (Ye hx g) .nil))))) cL CZ rfl rfl (by kernel_rfl)
end
def Vi:Sh.Sem:=fun B f args H l=>match args,H with
 |[.ptr 0 0,.agg (some 1) c,.d ns],[.pr 0]=>if y4 f 76&&pQ l l1&&c.all VO&&SD.le B ns (.slice none 1 7 [pS]) then some [(vwV,[.pr 0])] else none
 |_,_=>none
theorem Bt.shG {n:Nat}{c:m9}(h:Bt n c)(hn:n<=4)(xs:List Int)(vs:List Nat):(cG 4).g (dn xs c) vs (cat c):=by
 obtain ⟨a1,a2,a3⟩:=h.j3;obtain ⟨b1,b2⟩:=h.views;have hs:=h.sh (dn xs c) vs;unfold rB m9.enc at hs;obtain ⟨_,_,e,_,hs⟩:=sc hs;cases e;obtain ⟨_,_,e,_,hs⟩:=sc hs;cases e;have h1:(SD.slice none 1 3 [pS,.slice none 2 4 YV,iR 0 1,iR 0 40]).g (dn xs c) vs (y7 er.enc c.j3):=GB a1 a2 fun t ht=>by
  have:=a3 (dn xs c) vs t ht;unfold QK er.enc at this;obtain ⟨_,_,e,g1,g2⟩:=sc this;cases e;rw [er.enc,D7.g];refine ⟨_,_,rfl,?_,g2⟩;simp only [pS,SD.g] at g1 ⊢;exact ⟨⟨t.name,rfl,by unfold m9.sn;exact List.mem_append_left _ (List.mem_map.2 ⟨t,ht,rfl⟩)⟩,g1⟩
 have h2:(SD.slice none 0 4 QM).g (dn xs c) vs (y7 Vw.enc c.views):=GB (Nat.zero_le _) (by omega) fun t ht=>b2 (dn xs c) vs t ht
 have h3:D7.g (dn xs c) vs [.slice none 1 3 [pS,.slice none 2 4 YV,iR 0 1,iR 0 40],.slice none 0 4 QM,e1 r2,e1 r3,e1 r4,e1 r5,e1 r6,e1 r7] c.enc:=by
  rw [D7.g];refine ⟨_,_,rfl,h1,?_⟩;rw [D7.g];exact ⟨_,_,rfl,h2,hs⟩
 simp only [cG,SV.g];refine ⟨_,rfl,r9.KI h3,fun k hk=> ?_⟩;cases hk;show (c.enc.map b6.d).map b6.F2=c.enc.map b6.d
 rw [List.map_map];rfl
theorem Rl {xs:List Int}(hx:xs.length<=35184372088832){g:m9}{n:Nat}(hg:Bt n g)(hn:n<=4):fe (dn xs g) A Vi:=by
 intro B f args H l outs h vs hB az Hc ha hH;unfold Vi at h;split at h
 ·rename_i c ns
  split at h
  ·rename_i hc
   simp only [b5] at hc;obtain ⟨⟨⟨c1,c3⟩,c4⟩,c5⟩:=hc;have c1:=b8 c1;subst c1;cases h;have hl:l=l1:=by
    simp only [pQ,b5] at c3;have e1:=b8 c3.1.1.1;have e2:=b8 c3.1.1.2;have e3:=b8 c3.1.2;have e4:=b8 c3.2;cases l;simp only [l1] at e1 e2 e3 e4;subst e1 e2 e3 e4;rfl
   subst hl;simp only [r9.g] at ha;obtain ⟨a0,_,rfl,h0,a1,_,rfl,h1,a2,_,rfl,h2,rfl⟩:=ha;simp only [SV.g] at h1;obtain ⟨cs,rfl,h3,h4⟩:=h1;have h4:cs.map b6.F2=g.enc.map .d:=h4 1 rfl;rw [LL h3 c4] at h4;subst h4;obtain ⟨d,rfl,h5⟩:=Z4 h2;have h6:=SD.aW hB _ c5 h5;obtain ⟨_,hk⟩:=o76 hx hg hn;obtain ⟨v,H1,⟨o,o1,o2,o3⟩,hm⟩:=hk [a0,cat g,.d d] Hc (by
    simp only [s76,r9.g];exact ⟨_,_,rfl,h0,_,_,rfl,hg.shG hn xs [],_,_,rfl,bf (SD.bG _ (by rfl) h6),rfl⟩) (E7.bG _ (by rfl) hH)
   have:=p8.1 o1;subst this;exact ⟨v,H1,⟨_,p8.2 rfl,SV.bG _ (by rfl) o2,E7.bG _ (by rfl) o3⟩,hm⟩
  ·cases h
 ·cases h
def Zn:Sh.Sem:=wE (wE Vi Ri) uv
theorem Rj {xs:List Int}(hx:xs.length<=35184372088832){g:m9}{n:Nat}(hg:Bt n g)(hn:n<=4):fe (dn xs g) A Zn:=lS (lS (Rl hx hg hn) (IA xs hg hn)) (wD xs hx g)
def vT (n i:Nat)(w:SV):List SV:=[.ptr 0 0,w,.d (.lit (.int .i64 n)),.ptr 1 0,.ptr 2 0,.d (.lit (.int .i64 i)),w]
def vH (t i:Nat):List SO:=[.pr 0,.cells (some t) ((rB i).map .d),zC]
def FT:p5:=match a32.body with
 | .seq _ (.seq (.seq _ (.block _ (.loop _ b))) _)=>b
 |_=> .bad
def xx (n i:Nat):Bool:=match aD A Zn Mt [] l1 1 40 FT ⟨vT n i .any,vH 1 i,[]⟩ with
 |some outs=>outs.all fun o=>match o.1 with
  | .normal=>Nat.blt i n&&r9.le nE o.2.B o.2.T (vT n (i+1) .top)&&(E7.le nE o.2.B (o.2.H.take 3) (vH 0 (i+1))||E7.le nE o.2.B (o.2.H.take 3) (vH 1 (i+1)))
  | .exit e=>y4 e 0&&y4 i n&&r9.le nE o.2.B o.2.T (vT n i .top)&&E7.le nE o.2.B o.2.H (vH 1 i)
  | .ret=>false
 |none=>false
theorem IP:xx 3 0=true/\xx 3 1=true/\xx 3 2=true/\xx 3 3=true:=⟨by kernel_rfl,by kernel_rfl,by kernel_rfl,by kernel_rfl⟩
theorem Ev:xx 4 0=true/\xx 4 1=true/\xx 4 2=true/\xx 4 3=true/\xx 4 4=true:=⟨by kernel_rfl,by kernel_rfl,by kernel_rfl,by kernel_rfl,by kernel_rfl⟩
theorem On {n i:Nat}(hn:n=3\/n=4)(hi:i<=n):xx n i=true:=by
 rcases hn with rfl|rfl
 ·match i,hi with
  |0,_=>exact IP.1
  |1,_=>exact IP.2.1
  |2,_=>exact IP.2.2.1
  |3,_=>exact IP.2.2.2
 ·match i,hi with
  |0,_=>exact Ev.1
  |1,_=>exact Ev.2.1
  |2,_=>exact Ev.2.2.1
  |3,_=>exact Ev.2.2.2.1
  |4,_=>exact Ev.2.2.2.2
def zO:u5:= .cells [.own 4 0 [],.own 9 0 [],.own 3 0 [],.own 6 0 [],.own 4 0 [],.own 3 0 [],.own 2 0 [],.own 3 0 []]
def Vq (xs:List Int)(n:Nat)(k:Nat)(s:St):Prop:=∃ (i:Nat) (c:m9) (q:Nat) (w1 w6:b6) (tl:o6),i+k=n/\Bt i c/\q<=4 * xs.length/\s=⟨[.ptr 0 0,w1,.d (num (n:Int)),.ptr 1 0,.ptr 2 0,.d (num (i:Int)),w6],tp xs q:: .cells (c.enc.map .d)::zO::tl⟩
theorem sZ {C:Ctx}{vs:List Nat}{n:Nat}{v:b6}(h:(zi n).g C vs v):v= .own n 0 []:=by
 simp only [zi,SV.g,SD.g] at h;obtain ⟨len,cells,rfl,e⟩:=h;cases e;rfl
theorem ZF {C:Ctx}{vs:List Nat}{o:u5}(h:zC.g C vs o):o=zO:=by
 obtain ⟨cs,rfl,h,_⟩:=h;simp only [r9.g] at h;obtain ⟨a0,_,rfl,h0,a1,_,rfl,h1,a2,_,rfl,h2,a3,_,rfl,h3,a4,_,rfl,h4,a5,_,rfl,h5,a6,_,rfl,h6,a7,_,rfl,h7,rfl⟩:=h;rw [sZ h0,sZ h1,sZ h2,sZ h3,sZ h4,sZ h5,sZ h6,sZ h7];rfl
theorem ZE {C:Ctx}{vs:List Nat}:zC.g C vs zO:=by
 refine ⟨_,rfl,?_,fun k h=>by cases h⟩;show r9.g C vs [zi 4,zi 9,zi 3,zi 6,zi 4,zi 3,zi 2,zi 3] [.own 4 0 [],.own 9 0 [],.own 3 0 [],.own 6 0 [],.own 4 0 [],.own 3 0 [],.own 2 0 [],.own 3 0 []]
 have o:∀ n,(zi n).g C vs (.own n 0 []):=fun n=>by
  unfold zi Sh.SV.g;exact ⟨0,[],rfl,by unfold Sh.SD.g;rfl⟩
 exact ⟨_,_,rfl,o 4,_,_,rfl,o 9,_,_,rfl,o 3,_,_,rfl,o 6,_,_,rfl,o 4,_,_,rfl,o 3,_,_,rfl,o 2,_,_,rfl,o 3,rfl⟩
theorem Gy {C:Ctx}{vs:List Nat}{x:u7.Data}{v:b6}(h:(SV.d (.lit x)).g C vs v):v= .d x:=by
 obtain ⟨d,rfl,h2⟩:=Z4 h;simp only [SD.g] at h2;rw [h2]
theorem RO {xs:List Int}{g:m9}{vs:List Nat}{t i:Nat}{o:u5}(ht:t=0\/(t=1/\M7 g=true/\E8 g))(h:(SO.cells (some t) ((rB i).map .d)).g (dn xs g) vs o):∃ c,o= .cells (c.enc.map .d)/\Bt i c:=by
 obtain ⟨cs,rfl,h1,h2⟩:=h;obtain ⟨ds,rfl,h3⟩:=PR h1;have e:(ds.map b6.d).map b6.F2=ds.map b6.d:=by rw [List.map_map];rfl
 have inj:∀ {a b:List u7.Data},a.map b6.d=b.map b6.d->a=b:=by
  intro a
  induction a with
  |nil=>intro b h;cases b with|nil=>rfl|cons=>simp at h
  |cons x a ih=>intro b h;cases b with|nil=>simp at h|cons y b=>simp at h;rw [h.1,ih (by simpa using h.2)]
 rcases ht with rfl|⟨rfl,hv,hs⟩
 ·obtain ⟨c,h4,h5,h6⟩:=h2 0 rfl
  rw [e] at h4;have:=inj h4;subst this;exact ⟨c,rfl,Bt.of h3 (YU i) (YT i) h5 h6⟩
 ·have h4:(ds.map b6.d).map b6.F2=g.enc.map .d:=h2 1 rfl
  rw [e] at h4;have:=inj h4;subst this;exact ⟨g,rfl,Bt.of h3 (YU i) (YT i) hv hs⟩
def s32 (n:Nat):Sh.Spec:=⟨32,[.ptr 0 0,LQ,.d (.lit (.int .i64 n))],[.pr 0],l1,[(.agg (some 0) ((rB n).map .d),[.pr 0])]⟩
section
variable {xs:List Int} (hx:xs.length<=35184372088832)
include hx
theorem pass (n:Nat)(hn:n=3\/n=4)(k:Nat)(s:St)(h:Vq xs n k s):Ex A l1 1 FT (clean [true,false,true,true,true,true,false] 1 3 s) (rJ (fun x s=>x= .exit 0/\∃ (c:m9) (q:Nat) (w1 w6:b6),Bt n c/\q<=4 * xs.length/\s=⟨[.ptr 0 0,w1,.d (num (n:Int)),.ptr 1 0,.ptr 2 0,.d (num (n:Int)),w6],[tp xs q,.cells (c.enc.map .d),zO]⟩) fun s' =>∃ k',k' <k/\Vq xs n k' s'):=by
 obtain ⟨i,c,q,w1,w6,tl,hk,hc,hq,rfl⟩:=h;have hcl:clean [true,false,true,true,true,true,false] 1 3 ⟨[.ptr 0 0,w1,.d (num (n:Int)),.ptr 1 0,.ptr 2 0,.d (num (i:Int)),w6],tp xs q:: .cells (c.enc.map .d)::zO::tl⟩=⟨[.ptr 0 0,.any,.d (num (n:Int)),.ptr 1 0,.ptr 2 0,.d (num (i:Int)),.any],[tp xs q,.cells (c.enc.map .d),zO]⟩:=by
  unfold clean;rw [if_pos ⟨Nat.le_of_eq rfl,Nat.zero_le _⟩];rfl
 rw [hcl];have hv:=On (n:=n) (i:=i) hn (by omega);unfold xx at hv;split at hv
 ·rename_i outs hx2
  have h0:CS.g (dn xs c) [] ⟨vT n i .any,vH 1 i,[]⟩ ⟨[.ptr 0 0,.any,.d (num (n:Int)),.ptr 1 0,.ptr 2 0,.d (num (i:Int)),.any],[tp xs q,.cells (c.enc.map .d),zO]⟩:=by
   refine ⟨by simp [vT,r9.g,SV.g,SD.g,num],?_,rfl,fun i lo hi h=>by simp at h⟩;simp only [vH,E7.g];refine ⟨_,_,rfl,⟨q,hq,rfl⟩,_,_,rfl,⟨_,rfl,r9.KI (hc.sh _ _),fun k hk=> ?_⟩,_,_,rfl,ZE,rfl⟩;cases hk;show (c.enc.map b6.d).map b6.F2=c.enc.map b6.d
   rw [List.map_map];rfl
  refine (ey (Rj hx hc (by omega)) (vu xs c l1 1) FT h0 hx2).mono ?_;rintro x st ⟨o,o1,rfl,ws,_,g1,g2,g3⟩;have hv:=List.all_eq_true.1 hv o o1;have hT:∀ {j:Nat},r9.le nE o.2.B o.2.T (vT n j .top)=true->∃ u1 u6,st.T=[.ptr 0 0,u1,.d (num (n:Int)),.ptr 1 0,.ptr 2 0,.d (num (j:Int)),u6]:=fun {j} h=>by
   have:=r9.aW g3 cL (C:=dn xs c) _ h g1;simp only [vT,r9.g] at this;obtain ⟨a0,_,e,h0,a1,_,rfl,_,a2,_,rfl,h2,a3,_,rfl,h3,a4,_,rfl,h4,a5,_,rfl,h5,a6,_,rfl,_,rfl⟩:=this;rw [e,aX h0,Gy h2,aX h3,aX h4,Gy h5];exact ⟨a1,a6,rfl⟩
  have hH:∀ {t j:Nat} {H:o6},t=0\/t=1->E7.g (dn xs c) ws (vH t j) H->∃ c' q',Bt j c' /\q' <=4 * xs.length/\H=[tp xs q',.cells (c'.enc.map .d),zO]:=fun {t j H} ht h=>by
   simp only [vH,E7.g] at h;obtain ⟨a0,_,rfl,⟨q',XL,rfl⟩,a1,_,rfl,h1,a2,_,rfl,h2,rfl⟩:=h;obtain ⟨c',rfl,h3⟩:=RO (ht.imp id fun e=>⟨e,hc.val,hc.sm⟩) h1;rw [ZF h2];exact ⟨c',q',h3,XL,rfl⟩
  cases he:o.1 with
  |ret=>rw [he] at hv;cases hv
  |normal =>
   rw [he] at hv;simp only [b5,Bool.or_eq_true] at hv;obtain ⟨⟨v1,v2⟩,v3⟩:=hv;have v1:i<n:=m6 v1;obtain ⟨u1,u6,eT⟩:=hT v2;have hH3:∃ t,(t=0\/t=1)/\E7.g (dn xs c) ws (vH t (i+1)) (st.H.take 3):=by
    rcases v3 with v3|v3
    ·exact ⟨0,.inl rfl,E7.aW g3 cL v3 (E7.take g2 3)⟩
    ·exact ⟨1,.inr rfl,E7.aW g3 cL v3 (E7.take g2 3)⟩
   obtain ⟨t,ht,h4⟩:=hH3;obtain ⟨c',q',h5,h6,h7⟩:=hH ht h4;refine ⟨k - 1,by omega,i+1,c',q',u1,u6,st.H.drop 3,by omega,h5,h6,?_⟩;have e:st.H=st.H.take 3++st.H.drop 3:=(List.take_append_drop 3 st.H).symm;cases st;simp only at eT e h7;rw [h7] at e;rw [eT,e];simp
  |exit e =>
   rw [he] at hv;simp only [b5] at hv;obtain ⟨⟨⟨v1,v2⟩,v3⟩,v4⟩:=hv;have v1:=b8 v1;have v2:=b8 v2;subst v1 v2;obtain ⟨u1,u6,eT⟩:=hT v3;obtain ⟨c',q',h5,h6,h7⟩:=hH (.inr rfl) (E7.aW g3 cL v4 g2);refine ⟨rfl,c',q',u1,u6,h5,h6,?_⟩;cases st;simp only at eT h7;rw [eT,h7]
 ·cases hv
theorem o32 (g:m9)(n:Nat)(hn:n=3\/n=4):(s32 n).ok (dn xs g) A:=by
 refine ⟨by rcases hn with rfl|rfl<;>kernel_rfl,fun az Hc ha hH=> ?_⟩;simp only [s32,r9.g] at ha;obtain ⟨a0,_,rfl,h0,a1,_,rfl,h1,a2,_,rfl,h2,rfl⟩:=ha;simp only [s32,E7.g] at hH;obtain ⟨_,_,rfl,⟨q,hq,rfl⟩,rfl⟩:=hH;have h0:=aX h0;have h2:=Gy h2;subst h0 h2;have hB:Bg [] []:=⟨rfl,fun i lo hi h=>by simp at h⟩;simp only [LQ,SV.g] at h1;obtain ⟨cs,rfl,h3,h4⟩:=h1;have h5:r9.g (dn xs g) [] ((rB 0).map .d) cs:=r9.aW hB (fact:=nE) cL _ (by kernel_rfl) h3;obtain ⟨c,e,hc⟩:=RO (xs:=xs) (g:=g) (vs:=[]) (t:=0) (i:=0) (o:= .cells cs) (.inl rfl) ⟨cs,rfl,h5,h4⟩;cases e;refine Pq.run (b:=1) [.ptr 0 0,cat c,.d (num (n:Int)),.any,.any,.any,.any] rfl rfl rfl rfl rfl ?_;unfold tp;refine gr ?_;refine Ex.loop (Vq xs n) (fun k s hs=>(pass hx n hn k s hs).mono ?_) (k:=n) ⟨0,c,q,_,_,[],by omega,hc,hq,rfl⟩;rintro x s h;cases x with
 |normal=>exact h
 |ret=>exact absurd h.1 (by simp)
 |exit e =>
  obtain ⟨e,c',q',w1,w6,h5,h6,rfl⟩:=h;cases e;unfold tp zO;show Ex _ _ _ _ _ _
  refine gr ?_;refine ⟨_,_,rfl,_,p8.2 rfl,?_,?_⟩
  ·simp only [SV.g]
   refine ⟨_,rfl,r9.KI (h5.sh _ _),fun k hk=> ?_⟩;cases hk;exact ⟨c',rfl,h5.val,h5.sm⟩
  ·simp only [E7.g]
   exact ⟨_,_,rfl,⟨q',h6,rfl⟩,rfl⟩
end
def s34:Sh.Spec:=⟨34,[.agg none ((rB 4).map .d)],[],l0,[(.d (.slice none 1 7 [.str 2]),[])]⟩
def l6 (r:List SD):SD:= .slice none 0 6 r
def rF:List SD:=[.slice none 1 3 QK,.slice none 0 3 QM,l6 r2,l6 r3,l6 r4,l6 r5,l6 r6,l6 r7]
def s13:Sh.Spec:=⟨13,[.ptr 0 0],[.pr 0],l1,[(.agg (some 0) (rF.map .d),[.pr 0])]⟩
section
variable {xs:List Int} (hx:xs.length<=35184372088832) (g:m9)
include hx
theorem o34:s34.ok (dn xs g) A:=dF hx (l:=[]) (kp:=[]) (js:=[]) .nil rfl rfl (by kernel_rfl)
theorem o13:s13.ok (dn xs g) A:=ur (kp:=[]) (js:=[]) (fuel:=40) (uu hx (.cons (VP hx g) (.cons (o33 hx g) (.cons (o32 hx g 3 (.inl rfl)) (.cons (o34 hx g) .nil))))) cL (vu xs g _ _) rfl rfl (by kernel_rfl)
end
theorem au6 (xs:List Int)(h:xs.length<=17592186043904):Pq A 12 [.d (ints xs)] [] bK fun v H1=>v= .ptr 0 0/\H1=[tp xs 0]:=by
 refine Pq.run (b:=0) [.d (ints xs),.any] rfl rfl rfl rfl rfl ?_;have e:ints xs=y7 (fun n=>[num n]) xs:=by simp [ints,y7,List.flatMap_singleton']
 rw [e];refine gr ?_;refine Ry.pure (v:= .own 1 0 []) (rs:=[]) rfl (by rfl) ?_;refine gr ?_;exact ⟨_,_,rfl,rfl,by simp [splice,tp,rq,Sj,lk];exact ⟨rfl,rfl⟩⟩
end Go.Proofs.YtkmclibmmlgogaaGreat

