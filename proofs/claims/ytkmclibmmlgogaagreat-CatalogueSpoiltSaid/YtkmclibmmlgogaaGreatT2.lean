/- Texts T5 T6 T7 T8 T9 (made short by a program) -/
import Derived.Test.YtkmclibmmlgogaaGreatT1
import Derived.Test.YtkmclibmmlgogaaGreatX6
set_option linter.unusedVariables false
set_option linter.unusedSimpArgs false
open Bool renaming and_eq_true → b5, false_eq_true → b7, not_eq_false' → A9, not_eq_true' → j5
open List renaming mem_cons → C6, mem_singleton → B0, take_of_length_le → q5
open Nat renaming beq → r9, eq_of_beq_eq_true → b9, le_of_ble_eq_true → o7, lt_or_ge → u9
namespace Go.Proofs.YtkmclibmmlgogaaGreat
open Go.y3 Go.y3.S
attribute [local irreducible] Rx Ry Rn Ex Pf
theorem yT {e:List aE}{ty:List Int}(h:o9 (F8 e ty).2 0=true):good (F8 e ty).1:=by
 unfold F8 at h ⊢;split at h
 ·simp [j9] at h
 ·rename_i a ha
  split at h
  ·rename_i eg
   rw [if_pos eg];have hwf:a.wf:=by
    unfold eO at ha;split at ha
    ·split at ha
     ·rename_i b hb
      cases ha;exact (S5 16 _ _ _ hb).2.1
     ·cases ha
    ·cases ha
   exact Gc eg a hwf h
  ·simp [j9] at h
theorem UR {c:m8}{n:Nat}:∀ (k i:Nat),cn c n k i=0->∀ j,i<=j->j<i+k->Z2 c n j=0
 |0,i,_,j,h1,h2=>by omega
 |k+1,i,h,j,h1,h2=>by
  unfold cn at h;cases he:o9 (Z2 c n i) 0 with
  |false =>
   rw [he] at h;simp only [Bool.not_false,if_true] at h;simp [j9,h] at he
  |true =>
   rw [he] at h;simp only [Bool.not_true,b7,if_false] at h
   by_cases hj:j=i
   ·subst hj;exact X2 he
   ·exact UR k (i+1) h j (by omega) (by omega)
theorem Re {c:m8}{k:Nat}(h:dK c k=0):1<=(nth c.j3 k).m7.length/\(nth c.j3 k).m7.length<=8/\∀ x,x ∈ (nth c.j3 k).m7->good x.type:=by
 unfold dK at h;cases hc:(!n7 (nth c.j3 k).m7.length 1 8|| !n7 (nth c.j3 k).erase 0 1|| !n7 (nth c.j3 k).Z4 0 1048576) with
 |true=>rw [hc] at h;simp at h
 |false =>
  rw [hc] at h;simp only [b7,if_false] at h;simp only [Bool.or_eq_false_iff,A9,n7,b5,p4,decide_eq_true_eq] at hc;refine ⟨by omega,by omega,fun x hx=> ?_⟩;obtain ⟨j,hj,rfl⟩:=List.getElem_of_mem hx;have h1:=UR _ _ h j (by omega) (by omega);rw [<- K0 hj];unfold Z2 at h1
  by_cases hg:good (nth (nth c.j3 k).m7 j).type
  ·exact hg
  ·exfalso
   have ht:(!o9 (nth (nth c.j3 k).m7 j).type 1&& !o9 (nth (nth c.j3 k).m7 j).type 2)=true:=by
    unfold good at hg;simp only [j9,b5,j5,beq_eq_false_iff_ne];exact ⟨fun e=>hg (.inl e),fun e=>hg (.inr e)⟩
   rw [ht] at h1;split at h1
   ·omega
   ·split at h1
    ·omega
    ·split at h1
     ·omega
     ·simp at h1
theorem pF {ty:List Int}:∀ (l:List DP) (seen:List D8),V4 ty seen l=0->∀ e,e ∈ l->(e.agg&&o9 e.f 0)=true\/o9 (F8 e.expr ty).2 0=true
 |[],_,_,e,he=>by cases he
 |a::l,seen,h,e,he=>by
  unfold V4 at h;split at h
  ·omega
  ·split at h
   ·omega
   ·split at h
    ·omega
    ·split at h
     ·rename_i h0
      rcases C6.1 he with rfl|he
      ·exact .inl h0
      ·exact pF l _ h e he
     ·split at h
      ·rename_i h1
       rw [h] at h1;simp [j9] at h1
      ·rename_i h1
       split at h
       ·omega
       ·rcases C6.1 he with rfl|he
        ·exact .inr (by simpa using h1)
        ·exact pF l _ h e he
theorem Az {c:m8}(hv:J3 c=true):∀ (n k:Nat),k<n->k<m8.ns c->1<=(R3 c k).length/\(R3 c k).length<=8/\∀ x,x ∈ R3 c k->good x
 |0,k,h,_=>by omega
 |n+1,k,h,hk=>by
  obtain ⟨h1,_,h3⟩:=fC hv;have cz:m8.ns c=c.j3.length+c.views.length:=rfl;have hnl:=Z3 c;have he:=h1 k (by omega)
  rcases u9 k c.j3.length with ht|ht
  ·obtain ⟨a1,a2,a3⟩:=Re (ez he ht)
   have e:R3 c k=(nth c.j3 k).m7.map Y5.type:=by unfold R3 iP;rw [if_pos ht]
   rw [e];refine ⟨by simpa using a1,by simpa using a2,fun x hx=> ?_⟩;obtain ⟨y,hy,rfl⟩:=List.mem_map.1 hx;exact a3 y hy
  ·have MQ:=cw he ht hk
   unfold V3 at MQ;split at MQ
   ·omega
   ·split at MQ
    ·omega
    ·rename_i hl
     split at MQ
     ·omega
     ·rename_i hsh
      simp only [Bool.not_eq_true,A9,j5,Bool.not_eq_false] at hsh;have hf:=I6 c (U7 c k).left k;split at MQ
      ·rename_i h2
       have e:R3 c k=R3 c (D5 c (U7 c k).left k).toNat:=by
        have h0:0<=D5 c (U7 c k).left k:=by
         simp only [Bool.or_eq_true,p5,decide_eq_true_eq,not_or] at hl;omega
        conv=>lhs;unfold R3 iP
        rw [if_neg (by omega),show (nth c.views (k - c.j3.length))=U7 c k from rfl,if_pos h2,W3 c (by omega)]
       have h0:0<=D5 c (U7 c k).left k:=by
        simp only [Bool.or_eq_true,p5,decide_eq_true_eq,not_or] at hl;omega
       rw [e];exact Az hv n _ (by omega) (by omega)
      ·rename_i h2
       split at MQ
       ·rename_i hp
        rw [MQ] at hp;simp [j9] at hp
       ·split at MQ
        ·rename_i hw
         rw [MQ] at hw;simp [j9] at hw
        ·split at MQ
         ·omega
         ·have e:R3 c k=X8 (U7 c k) (ins c k):=by
           unfold R3 iP;rw [if_neg (by omega),show (nth c.views (k - c.j3.length))=U7 c k from rfl,if_neg h2];rfl
          have hlen:1<=(U7 c k).items.length+(U7 c k).C1.length/\(U7 c k).items.length+(U7 c k).C1.length<=8:=by
           unfold cH mZ at hsh;rw [if_neg h2] at hsh;split at hsh<;>simp only [b5,j5,Bool.or_eq_false_iff,j9,beq_eq_false_iff_ne,p4,decide_eq_true_eq] at hsh<;>omega
          have hg:=pF _ _ MQ;rw [e];refine ⟨by simp [X8];omega,by simp [X8];omega,fun x hx=> ?_⟩;simp only [X8,List.mem_append,List.mem_map] at hx
          rcases hx with ⟨y,hy,rfl⟩|⟨y,hy,rfl⟩
          ·rcases hg ⟨false,y.name, -1,y.expr⟩ (List.mem_append_left _ (List.mem_map.2 ⟨y,hy,rfl⟩)) with h|h
           ·simp at h
           ·exact yT h
          ·unfold qu
           split
           ·exact .inl rfl
           ·rename_i h0
            rcases hg ⟨true,y.name,y.func,y.expr⟩ (List.mem_append_right _ (List.mem_map.2 ⟨y,hy,rfl⟩)) with h|h
            ·simp only [Bool.true_and] at h
             rw [h] at h0;simp at h0
            ·exact yT h
theorem EH {s:D8}:∀ (l:List D8) (i:Nat),s ∈ l->(i:Int)<=C0 s l i/\C0 s l i<i+l.length
 |[],_,h=>by cases h
 |x::r,i,h=>by
  simp only [C0];split
  ·simp;omega
  ·rename_i hx
   rcases C6.1 h with rfl|h
   ·simp [B8] at hx
   ·have:=EH r (i+1) h
    simp at this ⊢;omega
theorem SR {c:m8}(hv:J3 c=true){s:D8}(h:s ∈ m8.sn c):∃ i:Nat,xk c s=(i:Int)/\i<m8.ns c:=by
 have hl:=S0 c;have h1:=EH (m8.sn c) 0 h;have e:xk c s=C0 s (m8.sn c) 0:=by
  unfold xk D5;rw [hv,if_pos rfl,q5 (by omega)]
 rw [e];refine ⟨(C0 s (m8.sn c) 0).toNat,by omega,by omega⟩
theorem Pe {c:m8}(hv:J3 c=true){i:Nat}(hi:i<m8.ns c):P9 c i=true:=by
 unfold P9;rw [hv];simp [p4,p5];omega
end Go.Proofs.YtkmclibmmlgogaaGreat
namespace Go.y3.Sh
mutual
def SD.np:SD->Bool
 | .slice _ _ _ row=>F2.np row
 | .pr _ _=>false
 |_=>true
def F2.np:List SD->Bool
 |[]=>true
 |x::xs=>x.np&&F2.np xs
end
mutual
theorem SD.cx {C C' :Ctx}{vs:List Nat}:∀ (x:SD) {d:Data},x.np=true->x.g C vs d->x.g C' vs d
 | .top,_,_,_=>by simp [SD.g]
 | .lit _,_,_,h=>by simpa only [SD.g] using h
 | .bool _,_,_,h=>by simpa only [SD.g] using h
 | .int ..,_,_,h=>by simpa only [SD.g] using h
 | .anyI _,_,_,h=>by simpa only [SD.g] using h
 | .str _,_,_,h=>by simpa only [SD.g] using h
 | .slice v lo hi row,_,hp,h=>by
  simp only [SD.np] at hp;simp only [SD.g] at h ⊢;obtain ⟨rows,h1,h2,h3,h4,h5⟩:=h;exact ⟨rows,h1,h2,h3,h4,fun r hr=>F2.cx row hp (h5 r hr)⟩
 | .pr _ _,_,hp,_=>by simp [SD.np] at hp
theorem F2.cx {C C' :Ctx}{vs:List Nat}:∀ (x:List SD) {d:List Data},F2.np x=true->F2.g C vs x d->F2.g C' vs x d
 |[],_,_,h=>by simpa only [F2.g] using h
 |x::xs,_,hp,h=>by
  simp only [F2.np,b5] at hp;simp only [F2.g] at h ⊢;obtain ⟨d,ds,h1,h2,h3⟩:=h;exact ⟨d,ds,h1,SD.cx x hp.1 h2,F2.cx xs hp.2 h3⟩
end
end Go.y3.Sh
namespace Go.Proofs.YtkmclibmmlgogaaGreat
open Go.y3 Go.y3.S Go.y3.Sh
attribute [local irreducible] Rx Ry Rn Ex Pf
variable [Inhabited NM]
def pS:SD:= .pr 0 (.str 2)
def Qu:List SD:=[.str 2,iR 0 2,.str 2,.str 2,.slice none 0 1 [iR 0 23,iR 0 23],.slice none 0 13 Qt,.slice none 0 3 [.str 2,.slice none 1 4 Qt],.bool .qo,.slice none 0 3 [.str 2,iR 0 4,.slice none 0 4 Qt]]
def r2:List SD:=[.str 2,.str 2,iR 0 2]
def r3:List SD:=[.str 2,.str 2,iR 0 2,iR 0 2,iR 0 16,iR 0 3]
def r4:List SD:=[.str 2,.str 2,iR 0 2,iR 0 9]
def r5:List SD:=[.str 2,.str 2,iR 0 3]
def r6:List SD:=[.str 2,.str 2]
def r7:List SD:=[.str 2,.slice none 0 1 [.str 2],iR 0 30]
def e1 (r:List SD):SD:= .slice none 0 0 r
def rB (n:Nat):List SD:=[.slice none 1 3 SC,.slice none 0 n Qu,e1 r2,e1 r3,e1 r4,e1 r5,e1 r6,e1 r7]
def cG (n:Nat):SV:= .agg (some 1) [.d (.slice none 1 3 [pS,.slice none 2 4 rC4,iR 0 1,iR 0 40]),.d (.slice none 0 n Qu),.d (e1 r2),.d (e1 r3),.d (e1 r4),.d (e1 r5),.d (e1 r6),.d (e1 r7)]
def vwV:SV:= .agg none (Qu.map .d)
def s76:Sh.Spec:=⟨76,[.ptr 0 0,cG 4,.d (.slice none 1 7 [pS])],[.pr 0],l1,[(vwV,[.pr 0])]⟩
def Zu:SV->Bool
 | .d _=>true
 |_=>false
def YO:Sh.Sem:=fun _ f args H l=>match args,H with
 |[.agg (some 1) c,.d (.pr k (.str m))],[]=>if r9 f 51&&r9 k 0&&kZ l l0&&c.all Zu then some [(.d (.pr 1 (iR 0 2000)),[])] else none
 |[.agg (some 1) c,.d (.pr k (.int _ _ _ _))],[]=>if r9 f 54&&r9 k 1&&kZ l l0&&c.all Zu then some [(.d (.slice none 1 8 [iR 1 2]),[])] else none
 |_,_=>none
theorem Oc {C:Ctx}{vs:List Nat}:∀ {l:List SV} {cs:List b6},q6.g C vs l cs->l.all Zu=true->cs.map b6.G4=cs
 |[],_,h,_=>by have _:Inhabited NM:=inferInstance;simp only [q6.g] at h;subst h;rfl
 |x::xs,_,h,hd=>by
  simp only [q6.g] at h;obtain ⟨a,b,rfl,h1,h2⟩:=h;simp only [List.all_cons,b5] at hd;cases x<;>simp only [Zu,b7,false_and] at hd;obtain ⟨d,rfl,_⟩:=aF h1;simp only [List.map_cons,b6.G4];rw [Oc h2 hd.2]
theorem xE {l:G9}(h:kZ l l0=true):l=cB:=by
 have _:Inhabited NM:=inferInstance
 simp only [kZ,b5] at h;have e1:=b9 h.1.1.1;have e2:=b9 h.1.1.2;have e3:=b9 h.1.2;have e4:=b9 h.2;cases l;simp only [l0] at e1 e2 e3 e4;subst e1 e2 e3 e4;rfl
theorem Qn {f:FuncId}{args:List b6}{v:b6}{P:b6->o6->Prop}(h:Pf A f args v)(hP:P v []):Pq A f args [] cB P:=have _:Inhabited NM:=inferInstance;⟨v,[],hP,by unfold Pf at h;exact h⟩
theorem Ui (xs:List Int){g:m8}(hs:B6 g)(hv:J3 g=true):ee (aD xs g) A YO:=by
 intro B f args H l outs h vs hB az Hc ha hH;have cz:m8.ns g<=1000+1000:=by obtain ⟨f0,f1,_⟩:=hs.sm.fI;unfold m8.ns;omega
 unfold YO at h;split at h
 ·rename_i c k m
  split at h
  ·rename_i hc
   simp only [b5] at hc;obtain ⟨⟨⟨c1,c2⟩,c3⟩,c4⟩:=hc;have c1:=b9 c1;have c2:=b9 c2;subst c1 c2;cases h;rw [xE c3];simp only [q6.g] at ha;obtain ⟨a0,_,rfl,h0,a1,_,rfl,h1,rfl⟩:=ha;simp only [H6.g] at hH;subst hH;simp only [SV.g] at h0;obtain ⟨cs,rfl,h2,h3⟩:=h0;have h4:cs.map b6.G4=g.enc.map .d:=h3 1 rfl;rw [Oc h2 c4] at h4;subst h4;obtain ⟨d,rfl,h5⟩:=aF h1;simp only [SD.g] at h5;obtain ⟨s,rfl,hm⟩:=h5.1;obtain ⟨i,e,hi⟩:=SR hv hm;have p:=TL g hs s;rw [e] at p;refine Qn p ⟨_,B0.2 rfl,bT ?_,by simp only [H6.g]⟩;simp only [SD.g,iR];exact ⟨⟨i,rfl,hi⟩,(i:Int),rfl,by omega,by omega,trivial⟩
  ·cases h
 ·rename_i c k kk lo hi r
  split at h
  ·rename_i hc
   simp only [b5] at hc;obtain ⟨⟨⟨c1,c2⟩,c3⟩,c4⟩:=hc;have c1:=b9 c1;have c2:=b9 c2;subst c1 c2;cases h;rw [xE c3];simp only [q6.g] at ha;obtain ⟨a0,_,rfl,h0,a1,_,rfl,h1,rfl⟩:=ha;simp only [H6.g] at hH;subst hH;simp only [SV.g] at h0;obtain ⟨cs,rfl,h2,h3⟩:=h0;have h4:cs.map b6.G4=g.enc.map .d:=h3 1 rfl;rw [Oc h2 c4] at h4;subst h4;obtain ⟨d,rfl,h5⟩:=aF h1;simp only [SD.g] at h5;obtain ⟨i,rfl,hi⟩:=h5.1;have p:=Qd g hs i (Pe hv hi);rw [Int.toNat_natCast] at p;obtain ⟨g1,g2,g3⟩:=Az hv (i+1) i (by omega) hi;refine Qn p ⟨_,B0.2 rfl,bT ?_,by simp only [H6.g]⟩;simp only [SD.g];refine ⟨(R3 g i).map fun t=>[num t],?_,by simpa using g1,by simpa using g2,(fun i h=>by cases h),fun r hr=> ?_⟩
   ·simp only [ints,List.length_map]
    congr 1
   ·obtain ⟨t,ht,rfl⟩:=List.mem_map.1 hr
    simp only [F2.g,SD.g,iR];refine ⟨num t,[],rfl,⟨t,rfl,?_,?_,trivial⟩,rfl⟩
    ·rcases g3 t ht with h|h<;>omega
    ·rcases g3 t ht with h|h<;>omega
  ·cases h
 ·cases h
theorem chunk {α:Type}{enc:α->List y3.Data}{sz:Nat}(hs:∀ a,(enc a).length=sz):∀ (rows:List (List y3.Data)) (l:List α),rows.length=l.length->(∀ r,r ∈ rows->r.length=sz)->rows.flatten=l.flatMap enc->rows=l.map enc
 |[],[],_,_,_=>rfl
 |[],_::_,h,_,_=>by have _:Inhabited NM:=inferInstance;simp at h
 |_::_,[],h,_,_=>by simp at h
 |r::rows,a::l,h,hr,e=>by
  simp only [List.flatten_cons,List.flatMap_cons] at e;have h1:=List.append_inj e (by rw [hr r (by simp),hs a]);rw [h1.1,chunk hs rows l (by simpa using h) (fun r hr' =>hr r (by simp [hr'])) h1.2];rfl
section
variable {C:Ctx} {vs:List Nat} {α:Type} {enc:α->List y3.Data}
theorem Dp {v:Option Nat}{lo hi:Nat}{row:List SD}{l:List α}(h:(SD.slice v lo hi row).g C vs (z6 enc l))(hs:∀ a,(enc a).length=row.length:=by intro;rfl):lo<=l.length/\l.length<=hi/\∀ a,a ∈ l->F2.g C vs row (enc a):=by
 simp only [SD.g] at h;obtain ⟨rows,h1,h2,h3,_,h5⟩:=h;unfold z6 at h1;injection h1 with e1 e2
 have:=chunk hs rows l e1.symm (fun r hr=>F2.len (h5 r hr)) e2.symm;subst this;exact ⟨by omega,by omega,fun a ha=>h5 _ (List.mem_map.2 ⟨a,ha,rfl⟩)⟩
theorem Iw {lo hi:Nat}{row:List SD}{l:List α}(h1:lo<=l.length)(h2:l.length<=hi)(h3:∀ a,a ∈ l->F2.g C vs row (enc a)):(SD.slice none lo hi row).g C vs (z6 enc l):=by
 have _:Inhabited NM:=inferInstance
 simp only [SD.g];refine ⟨l.map enc,?_,by simpa using h1,by simpa using h2,(fun i h=>by cases h),fun r hr=> ?_⟩
 ·simp only [z6,List.length_map,List.flatMap]
 ·obtain ⟨a,ha,rfl⟩:=List.mem_map.1 hr
  exact h3 a ha
end
structure Bt (n:Nat)(c:m8):Prop where
 sh:∀ C vs,F2.g C vs (rB n) c.enc
 val:J3 c=true
 sm:B6 c
theorem Bt.of {C:Ctx}{vs:List Nat}{n:Nat}{c:m8}(h:F2.g C vs (rB n) c.enc)(hp:F2.np (rB n)=true)(hc:F2.cl (rB n)=true)(hv:J3 c=true)(hs:B6 c):Bt n c:=have _:Inhabited NM:=inferInstance;⟨fun _ _=>F2.bu _ hc (F2.cx _ hp h),hv,hs⟩
theorem ao0 (n:Nat):F2.np (rB n)=true:=by have _:Inhabited NM:=inferInstance;rfl
theorem an9 (n:Nat):F2.cl (rB n)=true:=by have _:Inhabited NM:=inferInstance;rfl
section
variable {n:Nat} {c:m8} (h:Bt n c)
include h
theorem Bt.j3:1<=c.j3.length/\c.j3.length<=3/\∀ C vs a,a ∈ c.j3->F2.g C vs SC a.enc:=by
 have h1:∀ C vs,(SD.slice none 1 3 SC).g C vs (z6 eZ.enc c.j3):=fun C vs=>by
  have:=h.sh C vs;unfold rB m8.enc at this;obtain ⟨x,y,e,h1,_⟩:=sc this;cases e;exact h1
 have h2:=Dp (h1 (aD [] c) []);exact ⟨h2.1,h2.2.1,fun C vs a ha=>(Dp (h1 C vs)).2.2 a ha⟩
theorem Bt.views:c.views.length<=n/\∀ C vs a,a ∈ c.views->F2.g C vs Qu a.enc:=by
 have h1:∀ C vs,(SD.slice none 0 n Qu).g C vs (z6 Vw.enc c.views):=fun C vs=>by
  have:=h.sh C vs;unfold rB m8.enc at this;obtain ⟨x,y,e,_,h2⟩:=sc this;cases e;obtain ⟨x,y,e,h1,_⟩:=sc h2;cases e;exact h1
 have h2:=Dp (h1 (aD [] c) []);exact ⟨h2.2.1,fun C vs a ha=>(Dp (h1 C vs)).2.2 a ha⟩
end
def Uj:Sh.Sem:=fun _ f args H l=>match args,H with
 |[.agg (some 1) c],[]=>if r9 f 34&&kZ l l0&&c.all Zu then some [(.d (.slice none 1 7 [pS]),[])] else none
 |_,_=>none
theorem aN7 (c:m8)(hf:c.fI):Pf A 34 [cat c] (.d (z6 encS (m8.sn c))):=by
 have _:Inhabited NM:=inferInstance
 obtain ⟨f0,f1,_⟩:=hf;refine Pf.run [cat c,.any,.any,.any,.any,.any] rfl rfl rfl rfl ?_;refine gr ?_;refine Ex.J0 (fun k T H=>∃ (i:Nat) (acc:List D8) (v0 v2 w5:b6),T=[v0,.ptr 0 0,v2,B3 1 encS acc,.d (num i),w5]/\H=[.cells (c.enc.map .d)]/\i+k=c.j3.length/\acc=(c.j3.take i).map eZ.name) (by rintro _ _ _ ⟨_,_,_,_,_,_,rfl,_⟩;rfl) ?_ (k:=c.j3.length) ⟨0,[],_,_,_,rfl,rfl,by simp,by simp⟩;rintro k _ _ ⟨i,acc,v0,v2,w5,rfl,rfl,hk,hacc⟩;have hl:acc.length=i:=by rw [hacc];simp;omega
 refine Ex.nT ?_
 repeat' (first|refine gx ?_|refine Ex.H7 ?_|refine Ex.H8 ?_|refine Ex.cond rfl (fun ht=> ?_) (fun ht=> ?_)|refine Ex.test (Rn.text ?_)|refine Ex.test (Rn.draw ?_)|refine ⟨_,rfl,fun ht=> ?_,fun ht=> ?_⟩|refine ⟨_,rfl,?_⟩|fail)
 ·have h1:=y9 ht
  refine ⟨k - 1,by omega,i+1,acc++[(nth c.j3 i).name],_,_,_,rfl,rfl,by omega,?_⟩;rw [F7 (by omega),hacc];simp
 have h1:=y8 ht;rw [q5 (by omega)] at hacc;clear ht h1 hk hl;subst hacc;refine Ex.J0 (fun k T H=>∃ (i:Nat) (acc:List D8) (v0 v2 w4:b6),T=[v0,.ptr 0 0,v2,B3 1 encS acc,w4,.d (num i)]/\H=[.cells (c.enc.map .d)]/\i+k=c.views.length/\acc=c.j3.map eZ.name++(c.views.take i).map Vw.name) (by rintro _ _ _ ⟨_,_,_,_,_,_,rfl,_⟩;rfl) ?_ (k:=c.views.length) ⟨0,c.j3.map eZ.name,_,_,_,rfl,rfl,by simp,by simp⟩;rintro k _ _ ⟨i,acc,v0,v2,w4,rfl,rfl,hk,hacc⟩;have hl:acc.length=c.j3.length+i:=by rw [hacc];simp;omega
 refine Ex.nT ?_
 repeat' (first|refine gx ?_|refine Ex.H7 ?_|refine Ex.H8 ?_|refine Ex.cond rfl (fun ht=> ?_) (fun ht=> ?_)|refine Ex.test (Rn.text ?_)|refine Ex.test (Rn.draw ?_)|refine ⟨_,rfl,fun ht=> ?_,fun ht=> ?_⟩|refine ⟨_,rfl,?_⟩|fail)
 ·have h1:=y9 ht
  refine ⟨k - 1,by omega,i+1,acc++[(nth c.views i).name],_,_,_,rfl,rfl,by omega,?_⟩;rw [F7 (by omega),hacc];simp
 have h1:=y8 ht;rw [q5 (by omega)] at hacc;clear ht h1 hk hl;subst hacc;simp [b8,z6,B3,m8.sn]
theorem Bt.name {n:Nat}{c:m8}(h:Bt n c){s:D8}(hs:s ∈ m8.sn c):s.length<=2:=by
 unfold m8.sn at hs
 rcases List.mem_append.1 hs with hs|hs
 ·obtain ⟨t,ht,rfl⟩:=List.mem_map.1 hs
  have:=h.j3.2.2 (aD [] c) [] t ht;unfold SC eZ.enc at this;obtain ⟨x,y,e,h1,_⟩:=sc this;cases e;simp only [SD.g] at h1;obtain ⟨s,e,h2⟩:=h1;cases e;exact h2
 ·obtain ⟨t,ht,rfl⟩:=List.mem_map.1 hs
  have:=h.views.2 (aD [] c) [] t ht;unfold Qu Vw.enc at this;obtain ⟨x,y,e,h1,_⟩:=sc this;cases e;simp only [SD.g] at h1;obtain ⟨s,e,h2⟩:=h1;cases e;exact h2
theorem Kn (xs:List Int){n:Nat}{g:m8}(hg:Bt n g)(hn:n<=4):ee (aD xs g) A Uj:=by
 intro B f args H l outs h vs hB az Hc ha hH;unfold Uj at h;split at h
 ·rename_i c
  split at h
  ·rename_i hc
   simp only [b5] at hc;obtain ⟨⟨c1,c3⟩,c4⟩:=hc;have c1:=b9 c1;subst c1;cases h;rw [xE c3];simp only [q6.g] at ha;obtain ⟨a0,_,rfl,h0,rfl⟩:=ha;simp only [H6.g] at hH;subst hH;simp only [SV.g] at h0;obtain ⟨cs,rfl,h2,h3⟩:=h0;have h4:cs.map b6.G4=g.enc.map .d:=h3 1 rfl;rw [Oc h2 c4] at h4;subst h4;have ht:=hg.j3;have hw:=hg.views;have hl:=S0 g;have nY:m8.ns g=g.j3.length+g.views.length:=rfl;refine Qn (aN7 g hg.sm.sm.fI) ⟨_,B0.2 rfl,bT (Iw (by omega) (by omega) fun s hs=> ?_),by simp only [H6.g]⟩;simp only [F2.g,SD.g,encS,pS];exact ⟨_,_,rfl,⟨⟨s,rfl,hs⟩,s,rfl,hg.name hs⟩,rfl⟩
  ·cases h
 ·cases h
def aQ2 (l:List Sh.Spec):Sh.Sem:=cT (cT YO Uj) (gl l)
section
variable {xs:List Int} (hx:xs.length<=35184372088832) {g:m8} {n:Nat} (hg:Bt n g) (hn:n<=4)
include hx hg hn
theorem Ul {l:List Sh.Spec}(h:iB (aD xs g) l):ee (aD xs g) A (aQ2 l):=jQ (jQ (Ui xs hg.sm hg.val) (Kn xs hg hn)) (rN hx h)
theorem o76:s76.ok (aD xs g) A :=
 oq (kp:=[]) (js:=[]) (fuel:=40) (Ul hx hg hn (.cons (XJ hx g) (.cons (aM0 hx g) (.cons (PF hx g) (.cons (ai7 hx g) .nil))))) aT qR rfl rfl (by kernel_rfl)
end
end Go.Proofs.YtkmclibmmlgogaaGreat
namespace Go.Proofs.YtkmclibmmlgogaaGreat
open Go.y3 Go.y3.S Go.y3.Sh
attribute [local irreducible] Rx Ry Rn Ex Pf
variable [Inhabited NM]
def YP:Sh.Sem:=fun B f args H l=>match args,H with
 |[.ptr 0 0,.agg (some 1) c,.d ns],[.pr 0]=>if r9 f 76&&kZ l l1&&c.all Zu&&SD.le B ns (.slice none 1 7 [pS]) then some [(vwV,[.pr 0])] else none
 |_,_=>none
theorem Bt.shG {n:Nat}{c:m8}(h:Bt n c)(hn:n<=4)(xs:List Int)(vs:List Nat):(cG 4).g (aD xs c) vs (cat c):=by
 obtain ⟨a1,a2,a3⟩:=h.j3;obtain ⟨b1,b2⟩:=h.views;have hs:=h.sh (aD xs c) vs;unfold rB m8.enc at hs;obtain ⟨_,_,e,_,hs⟩:=sc hs;cases e;obtain ⟨_,_,e,_,hs⟩:=sc hs;cases e;have h1:(SD.slice none 1 3 [pS,.slice none 2 4 rC4,iR 0 1,iR 0 40]).g (aD xs c) vs (z6 eZ.enc c.j3):=Iw a1 a2 fun t ht=>by
  have:=a3 (aD xs c) vs t ht;unfold SC eZ.enc at this;obtain ⟨_,_,e,g1,g2⟩:=sc this;cases e;rw [eZ.enc,F2.g];refine ⟨_,_,rfl,?_,g2⟩;simp only [pS,SD.g] at g1 ⊢;exact ⟨⟨t.name,rfl,by unfold m8.sn;exact List.mem_append_left _ (List.mem_map.2 ⟨t,ht,rfl⟩)⟩,g1⟩
 have h2:(SD.slice none 0 4 Qu).g (aD xs c) vs (z6 Vw.enc c.views):=Iw (Nat.zero_le _) (by omega) fun t ht=>b2 (aD xs c) vs t ht
 have h3:F2.g (aD xs c) vs [.slice none 1 3 [pS,.slice none 2 4 rC4,iR 0 1,iR 0 40],.slice none 0 4 Qu,e1 r2,e1 r3,e1 r4,e1 r5,e1 r6,e1 r7] c.enc:=by
  rw [F2.g];refine ⟨_,_,rfl,h1,?_⟩;rw [F2.g];exact ⟨_,_,rfl,h2,hs⟩
 simp only [cG,SV.g];refine ⟨_,rfl,q6.It h3,fun k hk=> ?_⟩;cases hk;show (c.enc.map b6.d).map b6.G4=c.enc.map b6.d
 rw [List.map_map];rfl
theorem Um {xs:List Int}(hx:xs.length<=35184372088832){g:m8}{n:Nat}(hg:Bt n g)(hn:n<=4):ee (aD xs g) A YP:=by
 intro B f args H l outs h vs hB az Hc ha hH;unfold YP at h;split at h
 ·rename_i c ns
  split at h
  ·rename_i hc
   simp only [b5] at hc;obtain ⟨⟨⟨c1,c3⟩,c4⟩,c5⟩:=hc;have c1:=b9 c1;subst c1;cases h;have hl:l=l1:=by
    simp only [kZ,b5] at c3;have e1:=b9 c3.1.1.1;have e2:=b9 c3.1.1.2;have e3:=b9 c3.1.2;have e4:=b9 c3.2;cases l;simp only [l1] at e1 e2 e3 e4;subst e1 e2 e3 e4;rfl
   subst hl;simp only [q6.g] at ha;obtain ⟨a0,_,rfl,h0,a1,_,rfl,h1,a2,_,rfl,h2,rfl⟩:=ha;simp only [SV.g] at h1;obtain ⟨cs,rfl,h3,h4⟩:=h1;have h4:cs.map b6.G4=g.enc.map .d:=h4 1 rfl;rw [Oc h3 c4] at h4;subst h4;obtain ⟨d,rfl,h5⟩:=aF h2;have h6:=SD.bw hB _ c5 h5;obtain ⟨_,hk⟩:=o76 hx hg hn;obtain ⟨v,H1,⟨o,o1,o2,o3⟩,hm⟩:=hk [a0,cat g,.d d] Hc (by
    simp only [s76,q6.g];exact ⟨_,_,rfl,h0,_,_,rfl,hg.shG hn xs [],_,_,rfl,bT (SD.bu _ (by rfl) h6),rfl⟩) (H6.bu _ (by rfl) hH)
   have:=B0.1 o1;subst this;exact ⟨v,H1,⟨_,B0.2 rfl,SV.bu _ (by rfl) o2,H6.bu _ (by rfl) o3⟩,hm⟩
  ·cases h
 ·cases h
def ap9:Sh.Sem:=cT (cT YP Uj) vW
theorem Uk {xs:List Int}(hx:xs.length<=35184372088832){g:m8}{n:Nat}(hg:Bt n g)(hn:n<=4):ee (aD xs g) A ap9:=jQ (jQ (Um hx hg hn) (Kn xs hg hn)) (ym xs hx g)
def vT (n i:Nat)(w:SV):List SV:=[.ptr 0 0,w,.d (.lit (.int .i64 n)),.ptr 1 0,.ptr 2 0,.d (.lit (.int .i64 i)),w]
def vH (t i:Nat):List SO:=[.pr 0,.cells (some t) ((rB i).map .d),zC]
def HM:o8:=match a32.body with
 | .seq _ (.seq (.seq _ (.block _ (.loop _ b))) _)=>b
 |_=> .bad
def yY (n i:Nat):Bool:=match aX A ap9 OV [] l1 1 40 HM ⟨vT n i .any,vH 1 i,[]⟩ with
 |some outs=>outs.all fun o=>match o.1 with
  | .normal=>Nat.blt i n&&q6.le W7 o.2.B o.2.T (vT n (i+1) .top)&&(H6.le W7 o.2.B (o.2.H.take 3) (vH 0 (i+1))||H6.le W7 o.2.B (o.2.H.take 3) (vH 1 (i+1)))
  | .exit e=>r9 e 0&&r9 i n&&q6.le W7 o.2.B o.2.T (vT n i .top)&&H6.le W7 o.2.B o.2.H (vH 1 i)
  | .ret=>false
 |none=>false
theorem KE:yY 3 0=true/\yY 3 1=true/\yY 3 2=true/\yY 3 3=true:=have _:Inhabited NM:=inferInstance;⟨by kernel_rfl,by kernel_rfl,by kernel_rfl,by kernel_rfl⟩
theorem Gi:yY 4 0=true/\yY 4 1=true/\yY 4 2=true/\yY 4 3=true/\yY 4 4=true:=have _:Inhabited NM:=inferInstance;⟨by kernel_rfl,by kernel_rfl,by kernel_rfl,by kernel_rfl,by kernel_rfl⟩
theorem Rm {n i:Nat}(hn:n=3\/n=4)(hi:i<=n):yY n i=true:=by
 rcases hn with rfl|rfl
 ·match i,hi with
  |0,_=>exact KE.1
  |1,_=>exact KE.2.1
  |2,_=>exact KE.2.2.1
  |3,_=>exact KE.2.2.2
 ·match i,hi with
  |0,_=>exact Gi.1
  |1,_=>exact Gi.2.1
  |2,_=>exact Gi.2.2.1
  |3,_=>exact Gi.2.2.2.1
  |4,_=>exact Gi.2.2.2.2
def zO:y7:= .cells [.own 4 0 [],.own 9 0 [],.own 3 0 [],.own 6 0 [],.own 4 0 [],.own 3 0 [],.own 2 0 [],.own 3 0 []]
def YY (xs:List Int)(n:Nat)(k:Nat)(s:St):Prop:=∃ (i:Nat) (c:m8) (q:Nat) (w1 w6:b6) (tl:o6),i+k=n/\Bt i c/\q<=4 * xs.length/\s=⟨[.ptr 0 0,w1,.d (num (n:Int)),.ptr 1 0,.ptr 2 0,.d (num (i:Int)),w6],tp xs q:: .cells (c.enc.map .d)::zO::tl⟩
theorem uw {C:Ctx}{vs:List Nat}{n:Nat}{v:b6}(h:(AV n).g C vs v):v= .own n 0 []:=by
 have _:Inhabited NM:=inferInstance
 simp only [AV,SV.g,SD.g] at h;obtain ⟨len,cells,rfl,e⟩:=h;cases e;rfl
theorem ar8 {C:Ctx}{vs:List Nat}{o:y7}(h:zC.g C vs o):o=zO:=by
 obtain ⟨cs,rfl,h,_⟩:=h;simp only [q6.g] at h;obtain ⟨a0,_,rfl,h0,a1,_,rfl,h1,a2,_,rfl,h2,a3,_,rfl,h3,a4,_,rfl,h4,a5,_,rfl,h5,a6,_,rfl,h6,a7,_,rfl,h7,rfl⟩:=h;rw [uw h0,uw h1,uw h2,uw h3,uw h4,uw h5,uw h6,uw h7];rfl
theorem ar7 {C:Ctx}{vs:List Nat}:zC.g C vs zO:=by
 have _:Inhabited NM:=inferInstance
 refine ⟨_,rfl,?_,fun k h=>by cases h⟩;show q6.g C vs [AV 4,AV 9,AV 3,AV 6,AV 4,AV 3,AV 2,AV 3] [.own 4 0 [],.own 9 0 [],.own 3 0 [],.own 6 0 [],.own 4 0 [],.own 3 0 [],.own 2 0 [],.own 3 0 []]
 have o:∀ n,(AV n).g C vs (.own n 0 []):=fun n=>by
  unfold AV Sh.SV.g;exact ⟨0,[],rfl,by unfold Sh.SD.g;rfl⟩
 exact ⟨_,_,rfl,o 4,_,_,rfl,o 9,_,_,rfl,o 3,_,_,rfl,o 6,_,_,rfl,o 4,_,_,rfl,o 3,_,_,rfl,o 2,_,_,rfl,o 3,rfl⟩
theorem Is {C:Ctx}{vs:List Nat}{x:y3.Data}{v:b6}(h:(SV.d (.lit x)).g C vs v):v= .d x:=by
 have _:Inhabited NM:=inferInstance
 obtain ⟨d,rfl,h2⟩:=aF h;simp only [SD.g] at h2;rw [h2]
theorem UQ {xs:List Int}{g:m8}{vs:List Nat}{t i:Nat}{o:y7}(ht:t=0\/(t=1/\J3 g=true/\B6 g))(h:(SO.cells (some t) ((rB i).map .d)).g (aD xs g) vs o):∃ c,o= .cells (c.enc.map .d)/\Bt i c:=by
 obtain ⟨cs,rfl,h1,h2⟩:=h;obtain ⟨ds,rfl,h3⟩:=Oy h1;have e:(ds.map b6.d).map b6.G4=ds.map b6.d:=by rw [List.map_map];rfl
 have inj:∀ {a b:List y3.Data},a.map b6.d=b.map b6.d->a=b:=by
  intro a
  induction a with
  |nil=>intro b h;cases b with|nil=>rfl|cons=>simp at h
  |cons x a ih=>intro b h;cases b with|nil=>simp at h|cons y b=>simp at h;rw [h.1,ih (by simpa using h.2)]
 rcases ht with rfl|⟨rfl,hv,hs⟩
 ·obtain ⟨c,h4,h5,h6⟩:=h2 0 rfl
  rw [e] at h4;have:=inj h4;subst this;exact ⟨c,rfl,Bt.of h3 (ao0 i) (an9 i) h5 h6⟩
 ·have h4:(ds.map b6.d).map b6.G4=g.enc.map .d:=h2 1 rfl
  rw [e] at h4;have:=inj h4;subst this;exact ⟨g,rfl,Bt.of h3 (ao0 i) (an9 i) hv hs⟩
def s32 (n:Nat):Sh.Spec:=⟨32,[.ptr 0 0,Oj,.d (.lit (.int .i64 n))],[.pr 0],l1,[(.agg (some 0) ((rB n).map .d),[.pr 0])]⟩
section
variable {xs:List Int} (hx:xs.length<=35184372088832)
include hx
theorem pass (n:Nat)(hn:n=3\/n=4)(k:Nat)(s:St)(h:YY xs n k s):Ex A l1 1 HM (clean [true,false,true,true,true,true,false] 1 3 s) (xq (fun x s=>x= .exit 0/\∃ (c:m8) (q:Nat) (w1 w6:b6),Bt n c/\q<=4 * xs.length/\s=⟨[.ptr 0 0,w1,.d (num (n:Int)),.ptr 1 0,.ptr 2 0,.d (num (n:Int)),w6],[tp xs q,.cells (c.enc.map .d),zO]⟩) fun s' =>∃ k',k' <k/\YY xs n k' s'):=by
 obtain ⟨i,c,q,w1,w6,tl,hk,hc,hq,rfl⟩:=h;have hcl:clean [true,false,true,true,true,true,false] 1 3 ⟨[.ptr 0 0,w1,.d (num (n:Int)),.ptr 1 0,.ptr 2 0,.d (num (i:Int)),w6],tp xs q:: .cells (c.enc.map .d)::zO::tl⟩=⟨[.ptr 0 0,.any,.d (num (n:Int)),.ptr 1 0,.ptr 2 0,.d (num (i:Int)),.any],[tp xs q,.cells (c.enc.map .d),zO]⟩:=by
  unfold clean;rw [if_pos ⟨Nat.le_of_eq rfl,Nat.zero_le _⟩];rfl
 rw [hcl];have hv:=Rm (n:=n) (i:=i) hn (by omega);unfold yY at hv;split at hv
 ·rename_i outs hx2
  have h0:CS.g (aD xs c) [] ⟨vT n i .any,vH 1 i,[]⟩ ⟨[.ptr 0 0,.any,.d (num (n:Int)),.ptr 1 0,.ptr 2 0,.d (num (i:Int)),.any],[tp xs q,.cells (c.enc.map .d),zO]⟩:=by
   refine ⟨by simp [vT,q6.g,SV.g,SD.g,num],?_,rfl,fun i lo hi h=>by simp at h⟩;simp only [vH,H6.g];refine ⟨_,_,rfl,⟨q,hq,rfl⟩,_,_,rfl,⟨_,rfl,q6.It (hc.sh _ _),fun k hk=> ?_⟩,_,_,rfl,ar7,rfl⟩;cases hk;show (c.enc.map b6.d).map b6.G4=c.enc.map b6.d
   rw [List.map_map];rfl
  refine (eW (Uk hx hc (by omega)) (xx xs c l1 1) HM h0 hx2).mono ?_;rintro x st ⟨o,o1,rfl,ws,_,g1,g2,g3⟩;have hv:=List.all_eq_true.1 hv o o1;have hT:∀ {j:Nat},q6.le W7 o.2.B o.2.T (vT n j .top)=true->∃ u1 u6,st.T=[.ptr 0 0,u1,.d (num (n:Int)),.ptr 1 0,.ptr 2 0,.d (num (j:Int)),u6]:=fun {j} h=>by
   have:=q6.bw g3 aT (C:=aD xs c) _ h g1;simp only [vT,q6.g] at this;obtain ⟨a0,_,e,h0,a1,_,rfl,_,a2,_,rfl,h2,a3,_,rfl,h3,a4,_,rfl,h4,a5,_,rfl,h5,a6,_,rfl,_,rfl⟩:=this;rw [e,bM h0,Is h2,bM h3,bM h4,Is h5];exact ⟨a1,a6,rfl⟩
  have hH:∀ {t j:Nat} {H:o6},t=0\/t=1->H6.g (aD xs c) ws (vH t j) H->∃ c' q',Bt j c' /\q' <=4 * xs.length/\H=[tp xs q',.cells (c'.enc.map .d),zO]:=fun {t j H} ht h=>by
   simp only [vH,H6.g] at h;obtain ⟨a0,_,rfl,⟨q',hq',rfl⟩,a1,_,rfl,h1,a2,_,rfl,h2,rfl⟩:=h;obtain ⟨c',rfl,h3⟩:=UQ (ht.imp id fun e=>⟨e,hc.val,hc.sm⟩) h1;rw [ar8 h2];exact ⟨c',q',h3,hq',rfl⟩
  cases he:o.1 with
  |ret=>rw [he] at hv;cases hv
  |normal =>
   rw [he] at hv;simp only [b5,Bool.or_eq_true] at hv;obtain ⟨⟨v1,v2⟩,v3⟩:=hv;have v1:i<n:=o7 v1;obtain ⟨u1,u6,eT⟩:=hT v2;have hH3:∃ t,(t=0\/t=1)/\H6.g (aD xs c) ws (vH t (i+1)) (st.H.take 3):=by
    rcases v3 with v3|v3
    ·exact ⟨0,.inl rfl,H6.bw g3 aT v3 (H6.take g2 3)⟩
    ·exact ⟨1,.inr rfl,H6.bw g3 aT v3 (H6.take g2 3)⟩
   obtain ⟨t,ht,h4⟩:=hH3;obtain ⟨c',q',h5,h6,h7⟩:=hH ht h4;refine ⟨k - 1,by omega,i+1,c',q',u1,u6,st.H.drop 3,by omega,h5,h6,?_⟩;have e:st.H=st.H.take 3++st.H.drop 3:=(List.take_append_drop 3 st.H).symm;cases st;simp only at eT e h7;rw [h7] at e;rw [eT,e];simp
  |exit e =>
   rw [he] at hv;simp only [b5] at hv;obtain ⟨⟨⟨v1,v2⟩,v3⟩,v4⟩:=hv;have v1:=b9 v1;have v2:=b9 v2;subst v1 v2;obtain ⟨u1,u6,eT⟩:=hT v3;obtain ⟨c',q',h5,h6,h7⟩:=hH (.inr rfl) (H6.bw g3 aT v4 g2);refine ⟨rfl,c',q',u1,u6,h5,h6,?_⟩;cases st;simp only at eT h7;rw [eT,h7]
 ·cases hv
theorem o32 (g:m8)(n:Nat)(hn:n=3\/n=4):(s32 n).ok (aD xs g) A:=by
 refine ⟨by rcases hn with rfl|rfl<;>kernel_rfl,fun az Hc ha hH=> ?_⟩;simp only [s32,q6.g] at ha;obtain ⟨a0,_,rfl,h0,a1,_,rfl,h1,a2,_,rfl,h2,rfl⟩:=ha;simp only [s32,H6.g] at hH;obtain ⟨_,_,rfl,⟨q,hq,rfl⟩,rfl⟩:=hH;have h0:=bM h0;have h2:=Is h2;subst h0 h2;have hB:Bg [] []:=⟨rfl,fun i lo hi h=>by simp at h⟩;simp only [Oj,SV.g] at h1;obtain ⟨cs,rfl,h3,h4⟩:=h1;have h5:q6.g (aD xs g) [] ((rB 0).map .d) cs:=q6.bw hB (fact:=W7) aT _ (by kernel_rfl) h3;obtain ⟨c,e,hc⟩:=UQ (xs:=xs) (g:=g) (vs:=[]) (t:=0) (i:=0) (o:= .cells cs) (.inl rfl) ⟨cs,rfl,h5,h4⟩;cases e;refine Pq.run (b:=1) [.ptr 0 0,cat c,.d (num (n:Int)),.any,.any,.any,.any] rfl rfl rfl rfl rfl ?_;unfold tp;refine gr ?_;refine Ex.loop (YY xs n) (fun k s hs=>(pass hx n hn k s hs).mono ?_) (k:=n) ⟨0,c,q,_,_,[],by omega,hc,hq,rfl⟩;rintro x s h;cases x with
 |normal=>exact h
 |ret=>exact absurd h.1 (by simp)
 |exit e =>
  obtain ⟨e,c',q',w1,w6,h5,h6,rfl⟩:=h;cases e;unfold tp zO;show Ex _ _ _ _ _ _
  refine gr ?_;refine ⟨_,_,rfl,_,B0.2 rfl,?_,?_⟩
  ·simp only [SV.g]
   refine ⟨_,rfl,q6.It (h5.sh _ _),fun k hk=> ?_⟩;cases hk;exact ⟨c',rfl,h5.val,h5.sm⟩
  ·simp only [H6.g]
   exact ⟨_,_,rfl,⟨q',h6,rfl⟩,rfl⟩
end
end Go.Proofs.YtkmclibmmlgogaaGreat
namespace Go.Proofs.YtkmclibmmlgogaaGreat
open Go.y3 Go.y3.S Go.y3.Sh
attribute [local irreducible] Rx Ry Rn Ex Pf
variable [Inhabited NM]
def s34:Sh.Spec:=⟨34,[.agg none ((rB 4).map .d)],[],l0,[(.d (.slice none 1 7 [.str 2]),[])]⟩
def l6 (r:List SD):SD:= .slice none 0 6 r
def rF:List SD:=[.slice none 1 3 SC,.slice none 0 3 Qu,l6 r2,l6 r3,l6 r4,l6 r5,l6 r6,l6 r7]
def s13:Sh.Spec:=⟨13,[.ptr 0 0],[.pr 0],l1,[(.agg (some 0) (rF.map .d),[.pr 0])]⟩
section
variable {xs:List Int} (hx:xs.length<=35184372088832) (g:m8)
include hx
theorem o34:s34.ok (aD xs g) A:=aY hx (l:=[]) (kp:=[]) (js:=[]) .nil rfl rfl (by kernel_rfl)
theorem o13:s13.ok (aD xs g) A:=oq (kp:=[]) (js:=[]) (fuel:=40) (rN hx (.cons (XJ hx g) (.cons (o33 hx g) (.cons (o32 hx g 3 (.inl rfl)) (.cons (o34 hx g) .nil))))) aT (xx xs g _ _) rfl rfl (by kernel_rfl)
end
end Go.Proofs.YtkmclibmmlgogaaGreat
namespace Go.Proofs.YtkmclibmmlgogaaGreat
open Go.y3 Go.y3.S Go.y3.Sh
attribute [local irreducible] Rx Ry Rn Ex Pf
variable [Inhabited NM]
theorem aP3 (xs:List Int)(h:xs.length<=17592186043904):Pq A 12 [.d (ints xs)] [] cB fun v H1=>v= .ptr 0 0/\H1=[tp xs 0]:=by
 have _:Inhabited NM:=inferInstance
 refine Pq.run (b:=0) [.d (ints xs),.any] rfl rfl rfl rfl rfl ?_;have e:ints xs=z6 (fun n=>[num n]) xs:=by simp [ints,z6,List.flatMap_singleton']
 rw [e];refine gr ?_;refine Ry.pure (v:= .own 1 0 []) (rs:=[]) rfl (by rfl) ?_;refine gr ?_;exact ⟨_,_,rfl,rfl,by simp [splice,tp,rq,Vk,lk];exact ⟨rfl,rfl⟩⟩
end Go.Proofs.YtkmclibmmlgogaaGreat

