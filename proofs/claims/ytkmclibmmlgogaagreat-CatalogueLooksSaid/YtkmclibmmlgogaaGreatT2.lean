/- Texts T5 T6 T7 T8 T9 (made short by a program) -/
import Derived.Test.YtkmclibmmlgogaaGreatT1
import Derived.Test.YtkmclibmmlgogaaGreatX6
set_option linter.unusedVariables false
set_option linter.unusedSimpArgs false
open Bool renaming and_eq_true → b5, false_eq_true → b7, not_eq_false' → A7, not_eq_true' → j5, or_eq_false_iff → L6
open List renaming map_cons → H8, mem_cons → x9, mem_singleton → p4, take_of_length_le → q7
open Nat renaming beq → y7, eq_of_beq_eq_true → b8, le_of_ble_eq_true → m8, lt_or_ge → p9
namespace Go.Proofs.YtkmclibmmlgogaaGreat
open Go.z7 Go.z7.S
attribute [local irreducible] Rx Ry Rn Ex Pf
theorem xY {e:List aG}{ty:List Int}(h:o9 (F7 e ty).2 0=true):good (F7 e ty).1:=by
 unfold F7 at h ⊢;split at h
 ·simp [j9] at h
 ·rename_i a ha
  split at h
  ·rename_i dV
   rw [if_pos dV];have hwf:a.wf:=by
    unfold eD at ha;split at ha
    ·split at ha
     ·rename_i b hb
      cases ha;exact (R9 16 _ _ _ hb).2.1
     ·cases ha
    ·cases ha
   exact EX dV a hwf h
  ·simp [j9] at h
theorem SR {c:n5}{n:Nat}:∀ (k i:Nat),bS c n k i=0->∀ j,i<=j->j<i+k->Y9 c n j=0
 |0,i,_,j,h1,h2=>by omega
 |k+1,i,h,j,h1,h2=>by
  unfold bS at h;cases he:o9 (Y9 c n i) 0 with
  |false =>
   rw [he] at h;simp only [Bool.not_false,if_true] at h;simp [j9,h] at he
  |true =>
   rw [he] at h;simp only [Bool.not_true,b7,if_false] at h
   by_cases hj:j=i
   ·subst hj;exact X2 he
   ·exact SR k (i+1) h j (by omega) (by omega)
theorem OP {c:n5}{k:Nat}(h:dA c k=0):1<=(nth c.j3 k).m9.length/\(nth c.j3 k).m9.length<=8/\∀ x,x ∈ (nth c.j3 k).m9->good x.type:=by
 unfold dA at h;cases hc:(!n8 (nth c.j3 k).m9.length 1 8|| !n8 (nth c.j3 k).erase 0 1|| !n8 (nth c.j3 k).aI 0 1048576) with
 |true=>rw [hc] at h;simp at h
 |false =>
  rw [hc] at h;simp only [b7,if_false] at h;simp only [L6,A7,n8,b5,p5,decide_eq_true_eq] at hc;refine ⟨by omega,by omega,fun x hx=> ?_⟩;obtain ⟨j,hj,rfl⟩:=List.getElem_of_mem hx;have h1:=SR _ _ h j (by omega) (by omega);rw [<- K0 hj];unfold Y9 at h1
  by_cases hg:good (nth (nth c.j3 k).m9 j).type
  ·exact hg
  ·exfalso
   have ht:(!o9 (nth (nth c.j3 k).m9 j).type 1&& !o9 (nth (nth c.j3 k).m9 j).type 2)=true:=by
    unfold good at hg;simp only [j9,b5,j5,beq_eq_false_iff_ne];exact ⟨fun e=>hg (.inl e),fun e=>hg (.inr e)⟩
   rw [ht] at h1;split at h1
   ·omega
   ·split at h1
    ·omega
    ·split at h1
     ·omega
     ·simp at h1
theorem oL {ty:List Int}:∀ (l:List CR) (seen:List D6),V2 ty seen l=0->∀ e,e ∈ l->(e.agg&&o9 e.f 0)=true\/o9 (F7 e.expr ty).2 0=true
 |[],_,_,e,he=>by cases he
 |a::l,seen,h,e,he=>by
  unfold V2 at h;split at h
  ·omega
  ·split at h
   ·omega
   ·split at h
    ·omega
    ·split at h
     ·rename_i h0
      rcases x9.1 he with rfl|he
      ·exact .inl h0
      ·exact oL l _ h e he
     ·split at h
      ·rename_i h1
       rw [h] at h1;simp [j9] at h1
      ·rename_i h1
       split at h
       ·omega
       ·rcases x9.1 he with rfl|he
        ·exact .inr (by simpa using h1)
        ·exact oL l _ h e he
theorem zy {c:n5}(hv:K7 c=true):∀ (n k:Nat),k<n->k<n5.ns c->1<=(Q5 c k).length/\(Q5 c k).length<=8/\∀ x,x ∈ Q5 c k->good x
 |0,k,h,_=>by omega
 |n+1,k,h,hk=>by
  obtain ⟨h1,_,h3⟩:=fh hv;have aY:n5.ns c=c.j3.length+c.views.length:=rfl;have hnl:=Z1 c;have he:=h1 k (by omega)
  rcases p9 k c.j3.length with ht|ht
  ·obtain ⟨a1,a2,a3⟩:=OP (eo he ht)
   have e:Q5 c k=(nth c.j3 k).m9.map Y6.type:=by unfold Q5 iw;rw [if_pos ht]
   rw [e];refine ⟨by simpa using a1,by simpa using a2,fun x hx=> ?_⟩;obtain ⟨y,hy,rfl⟩:=List.mem_map.1 hx;exact a3 y hy
  ·have Lk:=bX he ht hk
   unfold V0 at Lk;split at Lk
   ·omega
   ·split at Lk
    ·omega
    ·rename_i hl
     split at Lk
     ·omega
     ·rename_i hsh
      simp only [Bool.not_eq_true,A7,j5,Bool.not_eq_false] at hsh;have hf:=I7 c (U5 c k).left k;split at Lk
      ·rename_i h2
       have e:Q5 c k=Q5 c (D4 c (U5 c k).left k).toNat:=by
        have h0:0<=D4 c (U5 c k).left k:=by
         simp only [Bool.or_eq_true,p8,decide_eq_true_eq,not_or] at hl;omega
        conv=>lhs;unfold Q5 iw
        rw [if_neg (by omega),show (nth c.views (k - c.j3.length))=U5 c k from rfl,if_pos h2,W0 c (by omega)]
       have h0:0<=D4 c (U5 c k).left k:=by
        simp only [Bool.or_eq_true,p8,decide_eq_true_eq,not_or] at hl;omega
       rw [e];exact zy hv n _ (by omega) (by omega)
      ·rename_i h2
       split at Lk
       ·rename_i hp
        rw [Lk] at hp;simp [j9] at hp
       ·split at Lk
        ·rename_i hw
         rw [Lk] at hw;simp [j9] at hw
        ·split at Lk
         ·omega
         ·have e:Q5 c k=X7 (U5 c k) (ins c k):=by
           unfold Q5 iw;rw [if_neg (by omega),show (nth c.views (k - c.j3.length))=U5 c k from rfl,if_neg h2];rfl
          have hlen:1<=(U5 c k).items.length+(U5 c k).C2.length/\(U5 c k).items.length+(U5 c k).C2.length<=8:=by
           unfold ct mJ at hsh;rw [if_neg h2] at hsh;split at hsh<;>simp only [b5,j5,L6,j9,beq_eq_false_iff_ne,p5,decide_eq_true_eq] at hsh<;>omega
          have hg:=oL _ _ Lk;rw [e];refine ⟨by simp [X7];omega,by simp [X7];omega,fun x hx=> ?_⟩;simp only [X7,List.mem_append,List.mem_map] at hx
          rcases hx with ⟨y,hy,rfl⟩|⟨y,hy,rfl⟩
          ·rcases hg ⟨false,y.name, -1,y.expr⟩ (List.mem_append_left _ (List.mem_map.2 ⟨y,hy,rfl⟩)) with h|h
           ·simp at h
           ·exact xY h
          ·unfold pX
           split
           ·exact .inl rfl
           ·rename_i h0
            rcases hg ⟨true,y.name,y.func,y.expr⟩ (List.mem_append_right _ (List.mem_map.2 ⟨y,hy,rfl⟩)) with h|h
            ·simp only [Bool.true_and] at h
             rw [h] at h0;simp at h0
            ·exact xY h
theorem DG {s:D6}:∀ (l:List D6) (i:Nat),s ∈ l->(i:Int)<=B8 s l i/\B8 s l i<i+l.length
 |[],_,h=>by cases h
 |x::r,i,h=>by
  simp only [B8];split
  ·simp;omega
  ·rename_i hx
   rcases x9.1 h with rfl|h
   ·simp [B7] at hx
   ·have:=DG r (i+1) h
    simp at this ⊢;omega
theorem QD {c:n5}(hv:K7 c=true){s:D6}(h:s ∈ n5.sn c):∃ i:Nat,wg c s=(i:Int)/\i<n5.ns c:=by
 have hl:=R2 c;have h1:=DG (n5.sn c) 0 h;have e:wg c s=B8 s (n5.sn c) 0:=by
  unfold wg D4;rw [hv,if_pos rfl,q7 (by omega)]
 rw [e];refine ⟨(B8 s (n5.sn c) 0).toNat,by omega,by omega⟩
theorem Nh {c:n5}(hv:K7 c=true){i:Nat}(hi:i<n5.ns c):P9 c i=true:=by
 unfold P9;rw [hv];simp [p5,p8];omega
end Go.Proofs.YtkmclibmmlgogaaGreat
namespace Go.z7.Sh
mutual
def SD.np:SD->Bool
 | .slice _ _ _ row=>E6.np row
 | .pr _ _=>false
 |_=>true
def E6.np:List SD->Bool
 |[]=>true
 |x::xs=>x.np&&E6.np xs
end
mutual
theorem SD.cx {C C' :Ctx}{vs:List Nat}:∀ (x:SD) {d:Data},x.np=true->x.g C vs d->x.g C' vs d
 | .top,_,_,_=>by simp [SD.g]
 | .lit _,_,_,h=>by simpa only [SD.g] using h
 | .bool _,_,_,h=>by simpa only [SD.g] using h
 | .int ..,_,_,h=>by simpa only [SD.g] using h
 | .anyI _,_,_,h=>by simpa only [SD.g] using h
 | .str _,_,_,h=>by simpa only [SD.g] using h
 | .slice v lo hi row,_,hp,h=>by
  simp only [SD.np] at hp;simp only [SD.g] at h ⊢;obtain ⟨rows,h1,h2,h3,h4,h5⟩:=h;exact ⟨rows,h1,h2,h3,h4,fun r hr=>E6.cx row hp (h5 r hr)⟩
 | .pr _ _,_,hp,_=>by simp [SD.np] at hp
theorem E6.cx {C C' :Ctx}{vs:List Nat}:∀ (x:List SD) {d:List Data},E6.np x=true->E6.g C vs x d->E6.g C' vs x d
 |[],_,_,h=>by simpa only [E6.g] using h
 |x::xs,_,hp,h=>by
  simp only [E6.np,b5] at hp;simp only [E6.g] at h ⊢;obtain ⟨d,ds,h1,h2,h3⟩:=h;exact ⟨d,ds,h1,SD.cx x hp.1 h2,E6.cx xs hp.2 h3⟩
end
end Go.z7.Sh
namespace Go.Proofs.YtkmclibmmlgogaaGreat
open Go.z7 Go.z7.S Go.z7.Sh
attribute [local irreducible] Rx Ry Rn Ex Pf
def pS:SD:= .pr 0 (.str 2)
def RO:List SD:=[.str 2,iR 0 2,.str 2,.str 2,.slice none 0 1 [iR 0 23,iR 0 23],.slice none 0 13 Xj,.slice none 0 3 [.str 2,.slice none 1 4 Xj],.bool .sr,.slice none 0 3 [.str 2,iR 0 4,.slice none 0 4 Xj]]
def r2:List SD:=[.str 2,.str 2,iR 0 2]
def r3:List SD:=[.str 2,.str 2,iR 0 2,iR 0 2,iR 0 16,iR 0 3]
def r4:List SD:=[.str 2,.str 2,iR 0 2,iR 0 9]
def r5:List SD:=[.str 2,.str 2,iR 0 3]
def r6:List SD:=[.str 2,.str 2]
def r7:List SD:=[.str 2,.slice none 0 1 [.str 2],iR 0 30]
def e1 (r:List SD):SD:= .slice none 0 0 r
def rB (n:Nat):List SD:=[.slice none 1 3 RM,.slice none 0 n RO,e1 r2,e1 r3,e1 r4,e1 r5,e1 r6,e1 r7]
def cG (n:Nat):SV:= .agg (some 1) [.d (.slice none 1 3 [pS,.slice none 2 4 rC4,iR 0 1,iR 0 40]),.d (.slice none 0 n RO),.d (e1 r2),.d (e1 r3),.d (e1 r4),.d (e1 r5),.d (e1 r6),.d (e1 r7)]
def vwV:SV:= .agg none (RO.map .d)
def s76:Sh.Spec:=⟨76,[.ptr 0 0,cG 4,.d (.slice none 1 7 [pS])],[.pr 0],l1,[(vwV,[.pr 0])]⟩
def Tn:SV->Bool
 | .d _=>true
 |_=>false
def Wt:Sh.Sem:=fun _ f args H l=>match args,H with
 |[.agg (some 1) c,.d (.pr k (.str m))],[]=>if y7 f 51&&y7 k 0&&ju l l0&&c.all Tn then some [(.d (.pr 1 (iR 0 2000)),[])] else none
 |[.agg (some 1) c,.d (.pr k (.int _ _ _ _))],[]=>if y7 f 54&&y7 k 1&&ju l l0&&c.all Tn then some [(.d (.slice none 1 8 [iR 1 2]),[])] else none
 |_,_=>none
theorem Mq {C:Ctx}{vs:List Nat}:∀ {l:List SV} {cs:List b6},s9.g C vs l cs->l.all Tn=true->cs.map b6.G9=cs
 |[],_,h,_=>by simp only [s9.g] at h;subst h;rfl
 |x::xs,_,h,hd=>by
  simp only [s9.g] at h;obtain ⟨a,b,rfl,h1,h2⟩:=h;simp only [List.all_cons,b5] at hd;cases x<;>simp only [Tn,b7,false_and] at hd;obtain ⟨d,rfl,_⟩:=Y7 h1;simp only [H8,b6.G9];rw [Mq h2 hd.2]
theorem gu {l:H7}(h:ju l l0=true):l=cU:=by
 simp only [ju,b5] at h;have e1:=b8 h.1.1.1;have e2:=b8 h.1.1.2;have e3:=b8 h.1.2;have e4:=b8 h.2;cases l;simp only [l0] at e1 e2 e3 e4;subst e1 e2 e3 e4;rfl
theorem Ef {f:FuncId}{args:List b6}{v:b6}{P:b6->o6->Prop}(h:Pf A f args v)(hP:P v []):Pq A f args [] cU P:=⟨v,[],hP,by unfold Pf at h;exact h⟩
theorem Se (xs:List Int){g:n5}(hs:C0 g)(hv:K7 g=true):eN (cN xs g) A Wt:=by
 intro B f args H l outs h vs hB az Hc ha hH;have aY:n5.ns g<=1000+1000:=by obtain ⟨f0,f1,_⟩:=hs.sm.fq;unfold n5.ns;omega
 unfold Wt at h;split at h
 ·rename_i c k m
  split at h
  ·rename_i hc
   simp only [b5] at hc;obtain ⟨⟨⟨c1,c2⟩,c3⟩,c4⟩:=hc;have c1:=b8 c1;have c2:=b8 c2;subst c1 c2;cases h;rw [gu c3];simp only [s9.g] at ha;obtain ⟨a0,_,rfl,h0,a1,_,rfl,h1,rfl⟩:=ha;simp only [F2.g] at hH;subst hH;simp only [SV.g] at h0;obtain ⟨cs,rfl,h2,h3⟩:=h0;have h4:cs.map b6.G9=g.enc.map .d:=h3 1 rfl;rw [Mq h2 c4] at h4;subst h4;obtain ⟨d,rfl,h5⟩:=Y7 h1;simp only [SD.g] at h5;obtain ⟨s,rfl,hm⟩:=h5.1;obtain ⟨i,e,hi⟩:=QD hv hm;have p:=RB g hs s;rw [e] at p;refine Ef p ⟨_,p4.2 rfl,aM ?_,by simp only [F2.g]⟩;simp only [SD.g,iR];exact ⟨⟨i,rfl,hi⟩,(i:Int),rfl,by omega,by omega,trivial⟩
  ·cases h
 ·rename_i c k kk lo hi r
  split at h
  ·rename_i hc
   simp only [b5] at hc;obtain ⟨⟨⟨c1,c2⟩,c3⟩,c4⟩:=hc;have c1:=b8 c1;have c2:=b8 c2;subst c1 c2;cases h;rw [gu c3];simp only [s9.g] at ha;obtain ⟨a0,_,rfl,h0,a1,_,rfl,h1,rfl⟩:=ha;simp only [F2.g] at hH;subst hH;simp only [SV.g] at h0;obtain ⟨cs,rfl,h2,h3⟩:=h0;have h4:cs.map b6.G9=g.enc.map .d:=h3 1 rfl;rw [Mq h2 c4] at h4;subst h4;obtain ⟨d,rfl,h5⟩:=Y7 h1;simp only [SD.g] at h5;obtain ⟨i,rfl,hi⟩:=h5.1;have p:=NQ g hs i (Nh hv hi);rw [Int.toNat_natCast] at p;obtain ⟨g1,g2,g3⟩:=zy hv (i+1) i (by omega) hi;refine Ef p ⟨_,p4.2 rfl,aM ?_,by simp only [F2.g]⟩;simp only [SD.g];refine ⟨(Q5 g i).map fun t=>[num t],?_,by simpa using g1,by simpa using g2,(fun i h=>by cases h),fun r hr=> ?_⟩
   ·simp only [ints,List.length_map]
    congr 1
   ·obtain ⟨t,ht,rfl⟩:=List.mem_map.1 hr
    simp only [E6.g,SD.g,iR];refine ⟨num t,[],rfl,⟨t,rfl,?_,?_,trivial⟩,rfl⟩
    ·rcases g3 t ht with h|h<;>omega
    ·rcases g3 t ht with h|h<;>omega
  ·cases h
 ·cases h
theorem chunk {α:Type}{enc:α->List z7.Data}{sz:Nat}(hs:∀ a,(enc a).length=sz):∀ (rows:List (List z7.Data)) (l:List α),rows.length=l.length->(∀ r,r ∈ rows->r.length=sz)->rows.flatten=l.flatMap enc->rows=l.map enc
 |[],[],_,_,_=>rfl
 |[],_::_,h,_,_=>by simp at h
 |_::_,[],h,_,_=>by simp at h
 |r::rows,a::l,h,hr,e=>by
  simp only [List.flatten_cons,List.flatMap_cons] at e;have h1:=List.append_inj e (by rw [hr r (by simp),hs a]);rw [h1.1,chunk hs rows l (by simpa using h) (fun r hr' =>hr r (by simp [hr'])) h1.2];rfl
section
variable {C:Ctx} {vs:List Nat} {α:Type} {enc:α->List z7.Data}
theorem Cp {v:Option Nat}{lo hi:Nat}{row:List SD}{l:List α}(h:(SD.slice v lo hi row).g C vs (A5 enc l))(hs:∀ a,(enc a).length=row.length:=by intro;rfl):lo<=l.length/\l.length<=hi/\∀ a,a ∈ l->E6.g C vs row (enc a):=by
 simp only [SD.g] at h;obtain ⟨rows,h1,h2,h3,_,h5⟩:=h;unfold A5 at h1;injection h1 with e1 e2
 have:=chunk hs rows l e1.symm (fun r hr=>E6.len (h5 r hr)) e2.symm;subst this;exact ⟨by omega,by omega,fun a ha=>h5 _ (List.mem_map.2 ⟨a,ha,rfl⟩)⟩
theorem He {lo hi:Nat}{row:List SD}{l:List α}(h1:lo<=l.length)(h2:l.length<=hi)(h3:∀ a,a ∈ l->E6.g C vs row (enc a)):(SD.slice none lo hi row).g C vs (A5 enc l):=by
 simp only [SD.g];refine ⟨l.map enc,?_,by simpa using h1,by simpa using h2,(fun i h=>by cases h),fun r hr=> ?_⟩
 ·simp only [A5,List.length_map,List.flatMap]
 ·obtain ⟨a,ha,rfl⟩:=List.mem_map.1 hr
  exact h3 a ha
end
structure Bt (n:Nat)(c:n5):Prop where
 sh:∀ C vs,E6.g C vs (rB n) c.enc
 val:K7 c=true
 sm:C0 c
theorem Bt.of {C:Ctx}{vs:List Nat}{n:Nat}{c:n5}(h:E6.g C vs (rB n) c.enc)(hp:E6.np (rB n)=true)(hc:E6.cl (rB n)=true)(hv:K7 c=true)(hs:C0 c):Bt n c:=⟨fun _ _=>E6.bW _ hc (E6.cx _ hp h),hv,hs⟩
theorem ab5 (n:Nat):E6.np (rB n)=true:=by rfl
theorem ab4 (n:Nat):E6.cl (rB n)=true:=by rfl
section
variable {n:Nat} {c:n5} (h:Bt n c)
include h
theorem Bt.j3:1<=c.j3.length/\c.j3.length<=3/\∀ C vs a,a ∈ c.j3->E6.g C vs RM a.enc:=by
 have h1:∀ C vs,(SD.slice none 1 3 RM).g C vs (A5 fu.enc c.j3):=fun C vs=>by
  have:=h.sh C vs;unfold rB n5.enc at this;obtain ⟨x,y,e,h1,_⟩:=sc this;cases e;exact h1
 have h2:=Cp (h1 (cN [] c) []);exact ⟨h2.1,h2.2.1,fun C vs a ha=>(Cp (h1 C vs)).2.2 a ha⟩
theorem Bt.views:c.views.length<=n/\∀ C vs a,a ∈ c.views->E6.g C vs RO a.enc:=by
 have h1:∀ C vs,(SD.slice none 0 n RO).g C vs (A5 Vw.enc c.views):=fun C vs=>by
  have:=h.sh C vs;unfold rB n5.enc at this;obtain ⟨x,y,e,_,h2⟩:=sc this;cases e;obtain ⟨x,y,e,h1,_⟩:=sc h2;cases e;exact h1
 have h2:=Cp (h1 (cN [] c) []);exact ⟨h2.2.1,fun C vs a ha=>(Cp (h1 C vs)).2.2 a ha⟩
end
def Sg:Sh.Sem:=fun _ f args H l=>match args,H with
 |[.agg (some 1) c],[]=>if y7 f 34&&ju l l0&&c.all Tn then some [(.d (.slice none 1 7 [pS]),[])] else none
 |_,_=>none
theorem aB0 (c:n5)(hf:c.fq):Pf A 34 [cat c] (.d (A5 encS (n5.sn c))):=by
 obtain ⟨f0,f1,_⟩:=hf;refine Pf.run [cat c,.any,.any,.any,.any,.any] rfl rfl rfl rfl ?_;refine gr ?_;refine Ex.J1 (fun k T H=>∃ (i:Nat) (acc:List D6) (v0 v2 w5:b6),T=[v0,.ptr 0 0,v2,B4 1 encS acc,.d (num i),w5]/\H=[.cells (c.enc.map .d)]/\i+k=c.j3.length/\acc=(c.j3.take i).map fu.name) (by rintro _ _ _ ⟨_,_,_,_,_,_,rfl,_⟩;rfl) ?_ (k:=c.j3.length) ⟨0,[],_,_,_,rfl,rfl,by simp,by simp⟩;rintro k _ _ ⟨i,acc,v0,v2,w5,rfl,rfl,hk,hacc⟩;have hl:acc.length=i:=by rw [hacc];simp;omega
 refine Ex.nT ?_
 repeat' (first|refine gx ?_|refine Ex.I4 ?_|refine Ex.I6 ?_|refine Ex.cond rfl (fun ht=> ?_) (fun ht=> ?_)|refine Ex.test (Rn.text ?_)|refine Ex.test (Rn.draw ?_)|refine ⟨_,rfl,fun ht=> ?_,fun ht=> ?_⟩|refine ⟨_,rfl,?_⟩|fail)
 ·have h1:=A4 ht
  refine ⟨k - 1,by omega,i+1,acc++[(nth c.j3 i).name],_,_,_,rfl,rfl,by omega,?_⟩;rw [F6 (by omega),hacc];simp
 have h1:=z8 ht;rw [q7 (by omega)] at hacc;clear ht h1 hk hl;subst hacc;refine Ex.J1 (fun k T H=>∃ (i:Nat) (acc:List D6) (v0 v2 w4:b6),T=[v0,.ptr 0 0,v2,B4 1 encS acc,w4,.d (num i)]/\H=[.cells (c.enc.map .d)]/\i+k=c.views.length/\acc=c.j3.map fu.name++(c.views.take i).map Vw.name) (by rintro _ _ _ ⟨_,_,_,_,_,_,rfl,_⟩;rfl) ?_ (k:=c.views.length) ⟨0,c.j3.map fu.name,_,_,_,rfl,rfl,by simp,by simp⟩;rintro k _ _ ⟨i,acc,v0,v2,w4,rfl,rfl,hk,hacc⟩;have hl:acc.length=c.j3.length+i:=by rw [hacc];simp;omega
 refine Ex.nT ?_
 repeat' (first|refine gx ?_|refine Ex.I4 ?_|refine Ex.I6 ?_|refine Ex.cond rfl (fun ht=> ?_) (fun ht=> ?_)|refine Ex.test (Rn.text ?_)|refine Ex.test (Rn.draw ?_)|refine ⟨_,rfl,fun ht=> ?_,fun ht=> ?_⟩|refine ⟨_,rfl,?_⟩|fail)
 ·have h1:=A4 ht
  refine ⟨k - 1,by omega,i+1,acc++[(nth c.views i).name],_,_,_,rfl,rfl,by omega,?_⟩;rw [F6 (by omega),hacc];simp
 have h1:=z8 ht;rw [q7 (by omega)] at hacc;clear ht h1 hk hl;subst hacc;simp [b9,A5,B4,n5.sn]
theorem Bt.name {n:Nat}{c:n5}(h:Bt n c){s:D6}(hs:s ∈ n5.sn c):s.length<=2:=by
 unfold n5.sn at hs
 rcases List.mem_append.1 hs with hs|hs
 ·obtain ⟨t,ht,rfl⟩:=List.mem_map.1 hs
  have:=h.j3.2.2 (cN [] c) [] t ht;unfold RM fu.enc at this;obtain ⟨x,y,e,h1,_⟩:=sc this;cases e;simp only [SD.g] at h1;obtain ⟨s,e,h2⟩:=h1;cases e;exact h2
 ·obtain ⟨t,ht,rfl⟩:=List.mem_map.1 hs
  have:=h.views.2 (cN [] c) [] t ht;unfold RO Vw.enc at this;obtain ⟨x,y,e,h1,_⟩:=sc this;cases e;simp only [SD.g] at h1;obtain ⟨s,e,h2⟩:=h1;cases e;exact h2
theorem Je (xs:List Int){n:Nat}{g:n5}(hg:Bt n g)(hn:n<=4):eN (cN xs g) A Sg:=by
 intro B f args H l outs h vs hB az Hc ha hH;unfold Sg at h;split at h
 ·rename_i c
  split at h
  ·rename_i hc
   simp only [b5] at hc;obtain ⟨⟨c1,c3⟩,c4⟩:=hc;have c1:=b8 c1;subst c1;cases h;rw [gu c3];simp only [s9.g] at ha;obtain ⟨a0,_,rfl,h0,rfl⟩:=ha;simp only [F2.g] at hH;subst hH;simp only [SV.g] at h0;obtain ⟨cs,rfl,h2,h3⟩:=h0;have h4:cs.map b6.G9=g.enc.map .d:=h3 1 rfl;rw [Mq h2 c4] at h4;subst h4;have ht:=hg.j3;have hw:=hg.views;have hl:=R2 g;have lV:n5.ns g=g.j3.length+g.views.length:=rfl;refine Ef (aB0 g hg.sm.sm.fq) ⟨_,p4.2 rfl,aM (He (by omega) (by omega) fun s hs=> ?_),by simp only [F2.g]⟩;simp only [E6.g,SD.g,encS,pS];exact ⟨_,_,rfl,⟨⟨s,rfl,hs⟩,s,rfl,hg.name hs⟩,rfl⟩
  ·cases h
 ·cases h
def aD5 (l:List Sh.Spec):Sh.Sem:=xu (xu Wt Sg) (Wu l)
section
variable {xs:List Int} (hx:xs.length<=35184372088832) {g:n5} {n:Nat} (hg:Bt n g) (hn:n<=4)
include hx hg hn
theorem Sj {l:List Sh.Spec}(h:gU (cN xs g) l):eN (cN xs g) A (aD5 l):=jD (jD (Se xs hg.sm hg.val) (Je xs hg hn)) (qV hx h)
theorem o76:s76.ok (cN xs g) A :=
 qU (kp:=[]) (js:=[]) (fuel:=40) (Sj hx hg hn (.cons (Xc hx g) (.cons (az5 hx g) (.cons (Nz hx g) (.cons (Zs hx g) .nil))))) bG wq rfl rfl (by kernel_rfl)
end
def Wv:Sh.Sem:=fun B f args H l=>match args,H with
 |[.ptr 0 0,.agg (some 1) c,.d ns],[.pr 0]=>if y7 f 76&&ju l l1&&c.all Tn&&SD.le B ns (.slice none 1 7 [pS]) then some [(vwV,[.pr 0])] else none
 |_,_=>none
theorem Bt.shG {n:Nat}{c:n5}(h:Bt n c)(hn:n<=4)(xs:List Int)(vs:List Nat):(cG 4).g (cN xs c) vs (cat c):=by
 obtain ⟨a1,a2,a3⟩:=h.j3;obtain ⟨b1,b2⟩:=h.views;have hs:=h.sh (cN xs c) vs;unfold rB n5.enc at hs;obtain ⟨_,_,e,_,hs⟩:=sc hs;cases e;obtain ⟨_,_,e,_,hs⟩:=sc hs;cases e;have h1:(SD.slice none 1 3 [pS,.slice none 2 4 rC4,iR 0 1,iR 0 40]).g (cN xs c) vs (A5 fu.enc c.j3):=He a1 a2 fun t ht=>by
  have:=a3 (cN xs c) vs t ht;unfold RM fu.enc at this;obtain ⟨_,_,e,g1,g2⟩:=sc this;cases e;rw [fu.enc,E6.g];refine ⟨_,_,rfl,?_,g2⟩;simp only [pS,SD.g] at g1 ⊢;exact ⟨⟨t.name,rfl,by unfold n5.sn;exact List.mem_append_left _ (List.mem_map.2 ⟨t,ht,rfl⟩)⟩,g1⟩
 have h2:(SD.slice none 0 4 RO).g (cN xs c) vs (A5 Vw.enc c.views):=He (Nat.zero_le _) (by omega) fun t ht=>b2 (cN xs c) vs t ht
 have h3:E6.g (cN xs c) vs [.slice none 1 3 [pS,.slice none 2 4 rC4,iR 0 1,iR 0 40],.slice none 0 4 RO,e1 r2,e1 r3,e1 r4,e1 r5,e1 r6,e1 r7] c.enc:=by
  rw [E6.g];refine ⟨_,_,rfl,h1,?_⟩;rw [E6.g];exact ⟨_,_,rfl,h2,hs⟩
 simp only [cG,SV.g];refine ⟨_,rfl,s9.Ls h3,fun k hk=> ?_⟩;cases hk;show (c.enc.map b6.d).map b6.G9=c.enc.map b6.d
 rw [List.map_map];rfl
theorem Sk {xs:List Int}(hx:xs.length<=35184372088832){g:n5}{n:Nat}(hg:Bt n g)(hn:n<=4):eN (cN xs g) A Wv:=by
 intro B f args H l outs h vs hB az Hc ha hH;unfold Wv at h;split at h
 ·rename_i c ns
  split at h
  ·rename_i hc
   simp only [b5] at hc;obtain ⟨⟨⟨c1,c3⟩,c4⟩,c5⟩:=hc;have c1:=b8 c1;subst c1;cases h;have hl:l=l1:=by
    simp only [ju,b5] at c3;have e1:=b8 c3.1.1.1;have e2:=b8 c3.1.1.2;have e3:=b8 c3.1.2;have e4:=b8 c3.2;cases l;simp only [l1] at e1 e2 e3 e4;subst e1 e2 e3 e4;rfl
   subst hl;simp only [s9.g] at ha;obtain ⟨a0,_,rfl,h0,a1,_,rfl,h1,a2,_,rfl,h2,rfl⟩:=ha;simp only [SV.g] at h1;obtain ⟨cs,rfl,h3,h4⟩:=h1;have h4:cs.map b6.G9=g.enc.map .d:=h4 1 rfl;rw [Mq h3 c4] at h4;subst h4;obtain ⟨d,rfl,h5⟩:=Y7 h2;have h6:=SD.aR hB _ c5 h5;obtain ⟨_,hk⟩:=o76 hx hg hn;obtain ⟨v,H1,⟨o,o1,o2,o3⟩,hm⟩:=hk [a0,cat g,.d d] Hc (by
    simp only [s76,s9.g];exact ⟨_,_,rfl,h0,_,_,rfl,hg.shG hn xs [],_,_,rfl,aM (SD.bW _ (by rfl) h6),rfl⟩) (F2.bW _ (by rfl) hH)
   have:=p4.1 o1;subst this;exact ⟨v,H1,⟨_,p4.2 rfl,SV.bW _ (by rfl) o2,F2.bW _ (by rfl) o3⟩,hm⟩
  ·cases h
 ·cases h
def ad6:Sh.Sem:=xu (xu Wv Sg) uX
theorem Si {xs:List Int}(hx:xs.length<=35184372088832){g:n5}{n:Nat}(hg:Bt n g)(hn:n<=4):eN (cN xs g) A ad6:=jD (jD (Sk hx hg hn) (Je xs hg hn)) (xq xs hx g)
def vT (n i:Nat)(w:SV):List SV:=[.ptr 0 0,w,.d (.lit (.int .i64 n)),.ptr 1 0,.ptr 2 0,.d (.lit (.int .i64 i)),w]
def vH (t i:Nat):List SO:=[.pr 0,.cells (some t) ((rB i).map .d),zC]
def Gv:p6:=match a32.body with
 | .seq _ (.seq (.seq _ (.block _ (.loop _ b))) _)=>b
 |_=> .bad
def yd (n i:Nat):Bool:=match aS A ad6 MX [] l1 1 40 Gv ⟨vT n i .any,vH 1 i,[]⟩ with
 |some outs=>outs.all fun o=>match o.1 with
  | .normal=>Nat.blt i n&&s9.le nZ o.2.B o.2.T (vT n (i+1) .top)&&(F2.le nZ o.2.B (o.2.H.take 3) (vH 0 (i+1))||F2.le nZ o.2.B (o.2.H.take 3) (vH 1 (i+1)))
  | .exit e=>y7 e 0&&y7 i n&&s9.le nZ o.2.B o.2.T (vT n i .top)&&F2.le nZ o.2.B o.2.H (vH 1 i)
  | .ret=>false
 |none=>false
theorem Js:yd 3 0=true/\yd 3 1=true/\yd 3 2=true/\yd 3 3=true:=⟨by kernel_rfl,by kernel_rfl,by kernel_rfl,by kernel_rfl⟩
theorem Fc:yd 4 0=true/\yd 4 1=true/\yd 4 2=true/\yd 4 3=true/\yd 4 4=true:=⟨by kernel_rfl,by kernel_rfl,by kernel_rfl,by kernel_rfl,by kernel_rfl⟩
theorem OX {n i:Nat}(hn:n=3\/n=4)(hi:i<=n):yd n i=true:=by
 rcases hn with rfl|rfl
 ·match i,hi with
  |0,_=>exact Js.1
  |1,_=>exact Js.2.1
  |2,_=>exact Js.2.2.1
  |3,_=>exact Js.2.2.2
 ·match i,hi with
  |0,_=>exact Fc.1
  |1,_=>exact Fc.2.1
  |2,_=>exact Fc.2.2.1
  |3,_=>exact Fc.2.2.2.1
  |4,_=>exact Fc.2.2.2.2
def zO:z6:= .cells [.own 4 0 [],.own 9 0 [],.own 3 0 [],.own 6 0 [],.own 4 0 [],.own 3 0 [],.own 2 0 [],.own 3 0 []]
def WE (xs:List Int)(n:Nat)(k:Nat)(s:St):Prop:=∃ (i:Nat) (c:n5) (q:Nat) (w1 w6:b6) (tl:o6),i+k=n/\Bt i c/\q<=4 * xs.length/\s=⟨[.ptr 0 0,w1,.d (num (n:Int)),.ptr 1 0,.ptr 2 0,.d (num (i:Int)),w6],tp xs q:: .cells (c.enc.map .d)::zO::tl⟩
theorem tS {C:Ctx}{vs:List Nat}{n:Nat}{v:b6}(h:(zY n).g C vs v):v= .own n 0 []:=by
 simp only [zY,SV.g,SD.g] at h;obtain ⟨len,cells,rfl,e⟩:=h;cases e;rfl
theorem af4 {C:Ctx}{vs:List Nat}{o:z6}(h:zC.g C vs o):o=zO:=by
 obtain ⟨cs,rfl,h,_⟩:=h;simp only [s9.g] at h;obtain ⟨a0,_,rfl,h0,a1,_,rfl,h1,a2,_,rfl,h2,a3,_,rfl,h3,a4,_,rfl,h4,a5,_,rfl,h5,a6,_,rfl,h6,a7,_,rfl,h7,rfl⟩:=h;rw [tS h0,tS h1,tS h2,tS h3,tS h4,tS h5,tS h6,tS h7];rfl
theorem af3 {C:Ctx}{vs:List Nat}:zC.g C vs zO:=by
 refine ⟨_,rfl,?_,fun k h=>by cases h⟩;show s9.g C vs [zY 4,zY 9,zY 3,zY 6,zY 4,zY 3,zY 2,zY 3] [.own 4 0 [],.own 9 0 [],.own 3 0 [],.own 6 0 [],.own 4 0 [],.own 3 0 [],.own 2 0 [],.own 3 0 []]
 have o:∀ n,(zY n).g C vs (.own n 0 []):=fun n=>by
  unfold zY Sh.SV.g;exact ⟨0,[],rfl,by unfold Sh.SD.g;rfl⟩
 exact ⟨_,_,rfl,o 4,_,_,rfl,o 9,_,_,rfl,o 3,_,_,rfl,o 6,_,_,rfl,o 4,_,_,rfl,o 3,_,_,rfl,o 2,_,_,rfl,o 3,rfl⟩
theorem GX {C:Ctx}{vs:List Nat}{x:z7.Data}{v:b6}(h:(SV.d (.lit x)).g C vs v):v= .d x:=by
 obtain ⟨d,rfl,h2⟩:=Y7 h;simp only [SD.g] at h2;rw [h2]
theorem SQ {xs:List Int}{g:n5}{vs:List Nat}{t i:Nat}{o:z6}(ht:t=0\/(t=1/\K7 g=true/\C0 g))(h:(SO.cells (some t) ((rB i).map .d)).g (cN xs g) vs o):∃ c,o= .cells (c.enc.map .d)/\Bt i c:=by
 obtain ⟨cs,rfl,h1,h2⟩:=h;obtain ⟨ds,rfl,h3⟩:=QA h1;have e:(ds.map b6.d).map b6.G9=ds.map b6.d:=by rw [List.map_map];rfl
 have inj:∀ {a b:List z7.Data},a.map b6.d=b.map b6.d->a=b:=by
  intro a
  induction a with
  |nil=>intro b h;cases b with|nil=>rfl|cons=>simp at h
  |cons x a ih=>intro b h;cases b with|nil=>simp at h|cons y b=>simp at h;rw [h.1,ih (by simpa using h.2)]
 rcases ht with rfl|⟨rfl,hv,hs⟩
 ·obtain ⟨c,h4,h5,h6⟩:=h2 0 rfl
  rw [e] at h4;have:=inj h4;subst this;exact ⟨c,rfl,Bt.of h3 (ab5 i) (ab4 i) h5 h6⟩
 ·have h4:(ds.map b6.d).map b6.G9=g.enc.map .d:=h2 1 rfl
  rw [e] at h4;have:=inj h4;subst this;exact ⟨g,rfl,Bt.of h3 (ab5 i) (ab4 i) hv hs⟩
def s32 (n:Nat):Sh.Spec:=⟨32,[.ptr 0 0,Mv,.d (.lit (.int .i64 n))],[.pr 0],l1,[(.agg (some 0) ((rB n).map .d),[.pr 0])]⟩
section
variable {xs:List Int} (hx:xs.length<=35184372088832)
include hx
theorem pass (n:Nat)(hn:n=3\/n=4)(k:Nat)(s:St)(h:WE xs n k s):Ex A l1 1 Gv (clean [true,false,true,true,true,true,false] 1 3 s) (sJ (fun x s=>x= .exit 0/\∃ (c:n5) (q:Nat) (w1 w6:b6),Bt n c/\q<=4 * xs.length/\s=⟨[.ptr 0 0,w1,.d (num (n:Int)),.ptr 1 0,.ptr 2 0,.d (num (n:Int)),w6],[tp xs q,.cells (c.enc.map .d),zO]⟩) fun s' =>∃ k',k' <k/\WE xs n k' s'):=by
 obtain ⟨i,c,q,w1,w6,tl,hk,hc,hq,rfl⟩:=h;have hcl:clean [true,false,true,true,true,true,false] 1 3 ⟨[.ptr 0 0,w1,.d (num (n:Int)),.ptr 1 0,.ptr 2 0,.d (num (i:Int)),w6],tp xs q:: .cells (c.enc.map .d)::zO::tl⟩=⟨[.ptr 0 0,.any,.d (num (n:Int)),.ptr 1 0,.ptr 2 0,.d (num (i:Int)),.any],[tp xs q,.cells (c.enc.map .d),zO]⟩:=by
  unfold clean;rw [if_pos ⟨Nat.le_of_eq rfl,Nat.zero_le _⟩];rfl
 rw [hcl];have hv:=OX (n:=n) (i:=i) hn (by omega);unfold yd at hv;split at hv
 ·rename_i outs hx2
  have h0:CS.g (cN xs c) [] ⟨vT n i .any,vH 1 i,[]⟩ ⟨[.ptr 0 0,.any,.d (num (n:Int)),.ptr 1 0,.ptr 2 0,.d (num (i:Int)),.any],[tp xs q,.cells (c.enc.map .d),zO]⟩:=by
   refine ⟨by simp [vT,s9.g,SV.g,SD.g,num],?_,rfl,fun i lo hi h=>by simp at h⟩;simp only [vH,F2.g];refine ⟨_,_,rfl,⟨q,hq,rfl⟩,_,_,rfl,⟨_,rfl,s9.Ls (hc.sh _ _),fun k hk=> ?_⟩,_,_,rfl,af3,rfl⟩;cases hk;show (c.enc.map b6.d).map b6.G9=c.enc.map b6.d
   rw [List.map_map];rfl
  refine (eH (Si hx hc (by omega)) (wu xs c l1 1) Gv h0 hx2).mono ?_;rintro x st ⟨o,o1,rfl,ws,_,g1,g2,g3⟩;have hv:=List.all_eq_true.1 hv o o1;have hT:∀ {j:Nat},s9.le nZ o.2.B o.2.T (vT n j .top)=true->∃ u1 u6,st.T=[.ptr 0 0,u1,.d (num (n:Int)),.ptr 1 0,.ptr 2 0,.d (num (j:Int)),u6]:=fun {j} h=>by
   have:=s9.aR g3 bG (C:=cN xs c) _ h g1;simp only [vT,s9.g] at this;obtain ⟨a0,_,e,h0,a1,_,rfl,_,a2,_,rfl,h2,a3,_,rfl,h3,a4,_,rfl,h4,a5,_,rfl,h5,a6,_,rfl,_,rfl⟩:=this;rw [e,bC h0,GX h2,bC h3,bC h4,GX h5];exact ⟨a1,a6,rfl⟩
  have hH:∀ {t j:Nat} {H:o6},t=0\/t=1->F2.g (cN xs c) ws (vH t j) H->∃ c' q',Bt j c' /\q' <=4 * xs.length/\H=[tp xs q',.cells (c'.enc.map .d),zO]:=fun {t j H} ht h=>by
   simp only [vH,F2.g] at h;obtain ⟨a0,_,rfl,⟨q',Za,rfl⟩,a1,_,rfl,h1,a2,_,rfl,h2,rfl⟩:=h;obtain ⟨c',rfl,h3⟩:=SQ (ht.imp id fun e=>⟨e,hc.val,hc.sm⟩) h1;rw [af4 h2];exact ⟨c',q',h3,Za,rfl⟩
  cases he:o.1 with
  |ret=>rw [he] at hv;cases hv
  |normal =>
   rw [he] at hv;simp only [b5,Bool.or_eq_true] at hv;obtain ⟨⟨v1,v2⟩,v3⟩:=hv;have v1:i<n:=m8 v1;obtain ⟨u1,u6,eT⟩:=hT v2;have hH3:∃ t,(t=0\/t=1)/\F2.g (cN xs c) ws (vH t (i+1)) (st.H.take 3):=by
    rcases v3 with v3|v3
    ·exact ⟨0,.inl rfl,F2.aR g3 bG v3 (F2.take g2 3)⟩
    ·exact ⟨1,.inr rfl,F2.aR g3 bG v3 (F2.take g2 3)⟩
   obtain ⟨t,ht,h4⟩:=hH3;obtain ⟨c',q',h5,h6,h7⟩:=hH ht h4;refine ⟨k - 1,by omega,i+1,c',q',u1,u6,st.H.drop 3,by omega,h5,h6,?_⟩;have e:st.H=st.H.take 3++st.H.drop 3:=(List.take_append_drop 3 st.H).symm;cases st;simp only at eT e h7;rw [h7] at e;rw [eT,e];simp
  |exit e =>
   rw [he] at hv;simp only [b5] at hv;obtain ⟨⟨⟨v1,v2⟩,v3⟩,v4⟩:=hv;have v1:=b8 v1;have v2:=b8 v2;subst v1 v2;obtain ⟨u1,u6,eT⟩:=hT v3;obtain ⟨c',q',h5,h6,h7⟩:=hH (.inr rfl) (F2.aR g3 bG v4 g2);refine ⟨rfl,c',q',u1,u6,h5,h6,?_⟩;cases st;simp only at eT h7;rw [eT,h7]
 ·cases hv
theorem o32 (g:n5)(n:Nat)(hn:n=3\/n=4):(s32 n).ok (cN xs g) A:=by
 refine ⟨by rcases hn with rfl|rfl<;>kernel_rfl,fun az Hc ha hH=> ?_⟩;simp only [s32,s9.g] at ha;obtain ⟨a0,_,rfl,h0,a1,_,rfl,h1,a2,_,rfl,h2,rfl⟩:=ha;simp only [s32,F2.g] at hH;obtain ⟨_,_,rfl,⟨q,hq,rfl⟩,rfl⟩:=hH;have h0:=bC h0;have h2:=GX h2;subst h0 h2;have hB:Bg [] []:=⟨rfl,fun i lo hi h=>by simp at h⟩;simp only [Mv,SV.g] at h1;obtain ⟨cs,rfl,h3,h4⟩:=h1;have h5:s9.g (cN xs g) [] ((rB 0).map .d) cs:=s9.aR hB (fact:=nZ) bG _ (by kernel_rfl) h3;obtain ⟨c,e,hc⟩:=SQ (xs:=xs) (g:=g) (vs:=[]) (t:=0) (i:=0) (o:= .cells cs) (.inl rfl) ⟨cs,rfl,h5,h4⟩;cases e;refine Pq.run (b:=1) [.ptr 0 0,cat c,.d (num (n:Int)),.any,.any,.any,.any] rfl rfl rfl rfl rfl ?_;unfold tp;refine gr ?_;refine Ex.loop (WE xs n) (fun k s hs=>(pass hx n hn k s hs).mono ?_) (k:=n) ⟨0,c,q,_,_,[],by omega,hc,hq,rfl⟩;rintro x s h;cases x with
 |normal=>exact h
 |ret=>exact absurd h.1 (by simp)
 |exit e =>
  obtain ⟨e,c',q',w1,w6,h5,h6,rfl⟩:=h;cases e;unfold tp zO;show Ex _ _ _ _ _ _
  refine gr ?_;refine ⟨_,_,rfl,_,p4.2 rfl,?_,?_⟩
  ·simp only [SV.g]
   refine ⟨_,rfl,s9.Ls (h5.sh _ _),fun k hk=> ?_⟩;cases hk;exact ⟨c',rfl,h5.val,h5.sm⟩
  ·simp only [F2.g]
   exact ⟨_,_,rfl,⟨q',h6,rfl⟩,rfl⟩
end
def s34:Sh.Spec:=⟨34,[.agg none ((rB 4).map .d)],[],l0,[(.d (.slice none 1 7 [.str 2]),[])]⟩
def l6 (r:List SD):SD:= .slice none 0 6 r
def rF:List SD:=[.slice none 1 3 RM,.slice none 0 3 RO,l6 r2,l6 r3,l6 r4,l6 r5,l6 r6,l6 r7]
def s13:Sh.Spec:=⟨13,[.ptr 0 0],[.pr 0],l1,[(.agg (some 0) (rF.map .d),[.pr 0])]⟩
section
variable {xs:List Int} (hx:xs.length<=35184372088832) (g:n5)
include hx
theorem o34:s34.ok (cN xs g) A:=dW hx (l:=[]) (kp:=[]) (js:=[]) .nil rfl rfl (by kernel_rfl)
theorem o13:s13.ok (cN xs g) A:=qU (kp:=[]) (js:=[]) (fuel:=40) (qV hx (.cons (Xc hx g) (.cons (o33 hx g) (.cons (o32 hx g 3 (.inl rfl)) (.cons (o34 hx g) .nil))))) bG (wu xs g _ _) rfl rfl (by kernel_rfl)
end
theorem aC6 (xs:List Int)(h:xs.length<=17592186043904):Pq A 12 [.d (ints xs)] [] cU fun v H1=>v= .ptr 0 0/\H1=[tp xs 0]:=by
 refine Pq.run (b:=0) [.d (ints xs),.any] rfl rfl rfl rfl rfl ?_;have e:ints xs=A5 (fun n=>[num n]) xs:=by simp [ints,A5,List.flatMap_singleton']
 rw [e];refine gr ?_;refine Ry.pure (v:= .own 1 0 []) (rs:=[]) rfl (by rfl) ?_;refine gr ?_;exact ⟨_,_,rfl,rfl,by simp [splice,tp,rq,Tq,lk];exact ⟨rfl,rfl⟩⟩
def ad5:Sh.Sem:=fun B f args H l=>match args,H with
 |[.d (.pr k _)],[]=>if y7 f 12&&y7 k 2&&ju l l0 then some [(.ptr 0 0,[.pr 0])] else none
 |[.agg _ c,.d x,.d (.str _)],[]=>if y7 f 22&&ju l l0&&c.all Tn&&s9.le (fun _ _=>false) B c (LJ.map .d)&&SD.le B x sI then some [(.d (.lit (.bool true)),[])] else none
 |[.agg _ c,.d x,.d (.lit (.str _))],[]=>if y7 f 22&&ju l l0&&c.all Tn&&s9.le (fun _ _=>false) B c (LJ.map .d)&&SD.le B x sI then some [(.d (.lit (.bool true)),[])] else none
 |[],[]=>if y7 f 11&&ju l l0 then some [(.d (.lit (.bool true)),[])] else none
 |_,_=>none
theorem Yn {C:Ctx}{vs:List Nat}{B:gO}{p:Option Nat}{c:List SV}{a:b6}(hB:Bg vs B)(h:(SV.agg p c).g C vs a)(hle:s9.le (fun _ _=>false) B c (LJ.map .d)=true):∃ r,a=cat r/\C0 r:=by
 simp only [SV.g] at h;obtain ⟨cs,rfl,h1,_⟩:=h;obtain ⟨ds,e3,h8⟩:=QA (s9.aR hB (C:=C) (fact:=fun _ _=>false) (fun k ds h=>by cases h) _ hle h1);obtain ⟨r,rfl,hr⟩:=Yq ds h8;exact ⟨r,by rw [e3];rfl,hr⟩
theorem IM {xs:List Int}{g:n5}{B:gO}{vs:List Nat}{p:Option Nat}{c:List SV}{x y:SD}{a0:List b6}(hB:Bg vs B)(ha:s9.g (cN xs g) vs [.agg p c,.d x,.d y] a0)(hle:s9.le (fun _ _=>false) B c (LJ.map .d)=true)(hx:SD.le B x sI=true)(hy:∀ d,y.g (cN xs g) vs d->∃ s:D6,d= .str s) :
  Pq A 22 a0 [] cU fun v H1=>∃ o,o ∈ [((SV.d (.lit (.bool true)):SV),([]:List SO))]/\o.1.g (cN xs g) vs v/\F2.g (cN xs g) vs o.2 H1:=by
 simp only [s9.g] at ha;obtain ⟨a0,_,rfl,h0,a1,_,rfl,h1,a2,_,rfl,h2,rfl⟩:=ha;obtain ⟨r,rfl,hr⟩:=Yn hB h0 hle;obtain ⟨d,rfl,h3⟩:=Y7 h1;have h4:=SD.aR hB _ hx h3;simp only [sI,SD.g] at h4;obtain ⟨n,rfl,_⟩:=h4;obtain ⟨e,rfl,h5⟩:=Y7 h2;obtain ⟨s,rfl⟩:=hy _ h5;exact Ef (aA7 r hr n s) ⟨_,p4.2 rfl,aM (by simp only [SD.g]),by simp only [F2.g]⟩
theorem Sf {xs:List Int}(hx:xs.length<=17592186043904)(g:n5):eN (cN xs g) A ad5:=by
 intro B f args H l outs h vs hB az Hc ha hH;unfold ad5 at h;split at h
 ·rename_i k _
  split at h
  ·rename_i hc
   simp only [b5] at hc;have c1:=b8 hc.1.1;have c2:=b8 hc.1.2;subst c1 c2;cases h;rw [gu hc.2];simp only [s9.g] at ha;obtain ⟨a0,_,rfl,h0,rfl⟩:=ha;simp only [F2.g] at hH;subst hH;obtain ⟨d,rfl,h1⟩:=Y7 h0;simp only [SD.g] at h1;have h2:d=ints xs:=h1.1;subst h2;obtain ⟨v,H1,⟨rfl,rfl⟩,hm⟩:=aC6 xs hx;refine ⟨_,_,⟨_,p4.2 rfl,?_,?_⟩,hm⟩
   ·simp only [SV.g]
   ·simp only [F2.g]
    exact ⟨_,_,rfl,⟨0,Nat.zero_le _,rfl⟩,rfl⟩
  ·cases h
 ·split at h
  ·rename_i hc
   simp only [b5] at hc;obtain ⟨⟨⟨⟨c1,c2⟩,c3⟩,c4⟩,c5⟩:=hc;have c1:=b8 c1;subst c1;cases h;rw [gu c2];simp only [F2.g] at hH;subst hH;exact IM hB ha c4 c5 fun d hd=>by
    simp only [SD.g] at hd;obtain ⟨s,rfl,_⟩:=hd;exact ⟨s,rfl⟩
  ·cases h
 ·split at h
  ·rename_i hc
   simp only [b5] at hc;obtain ⟨⟨⟨⟨c1,c2⟩,c3⟩,c4⟩,c5⟩:=hc;have c1:=b8 c1;subst c1;cases h;rw [gu c2];simp only [F2.g] at hH;subst hH;exact IM hB ha c4 c5 fun d hd=>by
    simp only [SD.g] at hd;exact ⟨_,hd⟩
  ·cases h
 ·split at h
  ·rename_i hc
   simp only [b5] at hc;have c1:=b8 hc.1;subst c1;cases h;rw [gu hc.2];simp only [s9.g] at ha;subst ha;simp only [F2.g] at hH;subst hH;exact Ef aA6 ⟨_,p4.2 rfl,aM (by simp only [SD.g]),by simp only [F2.g]⟩
  ·cases h
 ·cases h
def s7:Sh.Spec:=⟨7,[.d (.pr 2 .top),.d sI],[],l0,[(.d (.lit (.bool true)),[])]⟩
theorem o7 {xs:List Int}(hx:xs.length<=17592186043904)(g:n5):s7.ok (cN xs g) A :=
 qU (kp:=[]) (js:=[]) (fuel:=40) (jD (Sf hx g) (qV (by omega) (.cons (o13 (by omega) g) .nil))) bG wq rfl rfl (by kernel_rfl)
end Go.Proofs.YtkmclibmmlgogaaGreat

