/- Texts D33 D34 D35 D36 D37 D38 D39 (made short by a program) -/
import Derived.Test.YtkmclibmmlgogaaGreatE1
set_option linter.unusedVariables false
set_option linter.unusedSimpArgs false
open Bool renaming and_eq_true → b5, eq_false_or_eq_true → A3, false_eq_true → b7, not_eq_false' → A7, not_eq_true' → j5, or_eq_false_iff → L6
open List renaming length_append → C1, take_of_length_le → q7
open Nat renaming add_assoc → I8, le_refl → k9, lt_or_ge → p9
namespace Go.Proofs.YtkmclibmmlgogaaGreat
open Go.z7 Go.z7.S
def ou (c:n5)(prev:List (List D6))(k:Nat):List D6 :=
 if k<c.j3.length then (nth c.j3 k).m9.map Y6.name
 else if o9 (nth c.views (k - c.j3.length)).kind 2 then nth prev (D4 c (nth c.views (k - c.j3.length)).left k).toNat
 else (X1 (nth c.views (k - c.j3.length))).map CR.name
def BT (c:n5):Nat->List (List D6)
 |0=>[]
 |k+1=>BT c k++[ou c (BT c k) k]
def vQ (c:n5)(k:Nat):List D6:=ou c (BT c k) k
theorem DX (c:n5):∀ k,(BT c k).length=k
 |0=>rfl
 |k+1=>by simp [BT,DX c k]
theorem qH (c:n5):∀ {k j:Nat},j<k->nth (BT c k) j=vQ c j
 |k+1,j,h=>by
  have hl:=DX c k
  rcases p9 j k with h1|h1
  ·rw [<- qH c h1,BT,K0 (by simp;omega),K0 (by omega),List.getElem_append_left (by omega)]
  ·obtain rfl:j=k:=by omega
   rw [BT,K0 (by simp [hl]),List.getElem_append_right (by omega)];simp [hl,vQ]
def mM (c:n5)(j:Nat):Y0:=(nth (n5.sn c) j,vQ c j,Q5 c j)
def A6 (c:n5)(k:Nat):List Y0:=(List.range k).map (mM c)
theorem C8 (c:n5)(k:Nat):(A6 c k).length=k:=by simp [A6]
theorem L1 (c:n5){k j:Nat}(h:j<k):nth (A6 c k) j=mM c j:=by
 rw [K0 (by rw [C8];exact h)];simp [A6]
theorem xQ (c:n5)(k:Nat):A6 c (k+1)=A6 c k++[mM c k]:=by simp [A6,List.range_succ]
theorem iB (c:n5){k:Nat}(h:k<=n5.ns c):(A6 c k).map (·.1)=(n5.sn c).take k:=by
 apply List.ext_getElem
 ·have:=R2 c
  simp [A6];omega
 ·intro i h1 h2
  have h3:i<k:=by simpa [A6] using h1
  have h4:i<(n5.sn c).length:=by rw [R2];omega
  simp [A6,mM,K0 h4]
theorem bp (c:n5){k:Nat}(h:k<=n5.ns c)(s:D6):B8 s ((A6 c k).map (·.1)) 0=D4 c s k:=by rw [iB c h];rfl
theorem nG (c:n5){g:Nat}(h:g<c.j3.length):nth c.names g=(nth c.j3 g).name:=by
 rw [K0 (by simp [n5.names];omega),K0 h];simp [n5.names,List.getElem_append,h]
theorem eP (c:n5)(g:Nat)(s:D6)(h:nth c.names g=s)(e:Int)(he:K2 c g=(if !E5 (nth c.names g) then 3 else if (c.names.take g).any fun y=>J4 y (nth c.names g) then 4 else e)) :
  K2 c g=if !o9 (E8 (c.names.take g) s) 0 then E8 (c.names.take g) s else e:=by
 rw [he,h];unfold E8;have h3:o9 3 0=false:=by simp [j9]
 have h4:o9 4 0=false:=by simp [j9]
 have h0:o9 0 0=true:=by simp [j9]
 rcases A3 (E5 s) with c1|c1
 ·rcases A3 ((c.names.take g).any fun y=>J4 y s) with c2|c2
  ·simp only [c1,c2,Bool.not_true,b7,if_false,if_true,h4,Bool.not_false]
  ·simp only [c1,c2,Bool.not_true,b7,if_false,h0]
 ·simp only [c1,Bool.not_false,if_true,h3]
theorem R8 (c:n5)(g:Nat)(hg:g<c.names.length)(h:K2 c g=0):B5 (c.names.take g) (nth c.names g)=c.names.take (g+1):=by
 have h1:=ke h;have e1:E8 (c.names.take g) (nth c.names g)=0:=by unfold E8;rw [h1.1,h1.2];rfl
 unfold B5;rw [e1,F6 hg];simp [j9]
theorem vh (c:n5){g:Nat}(h:g<=n5.ns c)(s:D6)(hs:((c.names.take g).any fun y=>J4 y s)=false):(((A6 c g).map (·.1)).any fun y=>J4 y s)=false:=by
 rw [iB c h];have h1:c.names=n5.sn c++(c.idxs.map iW.name++c.F3.map iK.name++c.F9.map kP.name++c.J3.map jV.name++c.K9.map nq.name++c.M8.map nj.name):=by simp [n5.names,n5.sn]
 have h2:c.names.take g=(n5.sn c).take g:=by
  rw [h1,List.take_append_of_le_length (by rw [R2];exact h)]
 rw [<- h2];exact hs
theorem DH:∀ (l:List D6) (i:Nat),(∀ x,x ∈ l->x≠[])->B8 [] l i= -1
 |[],_,_=>rfl
 |x::l,i,h=>by
  have h1:J4 x []=false:=by simp [B7,h x (List.mem_cons_self)]
  simp only [B8,h1,b7,if_false];exact DH l (i+1) fun y hy=>h y (List.mem_cons_of_mem _ hy)
theorem Rm {s:D6}(h:E5 s=true):s≠[]:=by
 rintro rfl;simp [E5] at h
theorem Sn (c:n5){g:Nat}(h:g<=n5.ns c):(n5.sn c).take g=c.names.take g:=by
 have h1:c.names=n5.sn c++(c.idxs.map iW.name++c.F3.map iK.name++c.F9.map kP.name++c.J3.map jV.name++c.K9.map nq.name++c.M8.map nj.name):=by simp [n5.names,n5.sn]
 rw [h1,List.take_append_of_le_length (by rw [R2];exact h)]
theorem ML {c:n5}{g:Nat}(hg:g<=n5.ns c)(hok:bJ c g):D4 c [] g= -1:=by
 unfold D4;apply DH;intro x hx;rw [Sn c hg] at hx;obtain ⟨j,hj,rfl⟩:=List.getElem_of_mem hx;have h1:j<g:=by simp at hj;omega
 have h2:=ke (hok j h1);have h3:j<c.names.length:=by simp at hj;omega
 rw [K0 h3] at h2;have h4:=h2.1;simp only [A7] at h4;simpa using Rm h4
theorem EL (c:n5){g:Nat}(h:g<=c.j3.length)(s:D6):dQ c s g=D4 c s g:=by
 unfold dQ;rw [Nat.min_eq_left h]
theorem ql (c:n5){k:Nat}(h:k<c.j3.length):Q5 c k=(nth c.j3 k).m9.map Y6.type:=by
 unfold Q5 iw;rw [if_pos h]
theorem Rr {α β:Type} [Inhabited α] [Inhabited β] (f:α->β){l:List α}{i:Nat}(h:i<l.length):nth (l.map f) i=f (nth l i):=by
 rw [K0 (by simpa using h),K0 h];simp
theorem MH (a b:Int):o9 a b=o9 b a:=by
 simp only [j9];rw [Bool.eq_iff_iff];simp only [beq_iff_eq];exact eq_comm
theorem Ev (t:fu)(x:Y6):(!iS t x)=((!n8 x.fF 0 1||(o9 x.C9.length 0&&(!o9 x.fF 0|| !o9 x.jj 0)))||(!n8 x.jj 0 1048576||(!o9 t.aI 0&&C7 t.aI x.jj))):=by
 have h1:o9 x.C9.length 0= !C7 0 x.C9.length:=by
  simp only [j9,p8];rw [Bool.eq_iff_iff];simp only [beq_iff_eq,j5,decide_eq_false_iff_not];omega
 have h2:n8 x.fF 0 1=(o9 x.fF 0||o9 x.fF 1):=by
  simp only [n8,p5,j9];rw [Bool.eq_iff_iff];simp only [b5,Bool.or_eq_true,decide_eq_true_eq,beq_iff_eq];omega
 have h3:C7 t.aI x.jj= !W6 x.jj t.aI:=by
  simp only [p5,p8];rw [Bool.eq_iff_iff];simp only [decide_eq_true_eq,j5,decide_eq_false_iff_not];omega
 unfold iS;rw [h1,h2,h3];generalize o9 x.fF 0=a1;generalize o9 x.fF 1=a2;generalize C7 0 (x.C9.length:Int)=a3;generalize n8 x.jj 0 1048576=a4;generalize o9 x.jj 0=a5;generalize o9 t.aI 0=a6;generalize W6 x.jj t.aI=a7;revert a1 a2 a3 a4 a5 a6 a7
 decide
theorem az1:∀ (A B C ow wj Z wd ret E:Bool),(if A=true then (3:Int) else if B=true then 4 else if C=true then 5 else if (ow||((wj||Z)||(wd||ret)))=true then 1 else if E=true then 1 else 0)=(if A=true then (3:Int) else if B=true then 4 else if C=true then 5 else if (ow||wj||Z)=true then 1 else if (wd||ret||E)=true then 1 else 0):=by decide
theorem az2:∀ (A B C sp ow wj Z wd ret E F:Bool),(if A=true then (3:Int) else if B=true then 4 else if C=true then 5 else if (sp||ow||((wj||Z)||(wd||ret)))=true then 1 else if E=true then 1 else if F=true then 1 else 0)=(if A=true then (3:Int) else if B=true then 4 else if C=true then 5 else if (sp||ow||wj||Z)=true then 1 else if (wd||ret||E)=true then 1 else if F=true then 1 else 0):=by decide
set_option maxHeartbeats 4000000 in
theorem Qy {c:n5}{g i:Nat}(hg:g<c.j3.length)(hok:bJ c g):dO c (A6 c g) (nth c.j3 g) i=Y9 c g i:=by
 have aY:g<=n5.ns c:=by unfold n5.ns;omega
 unfold dO Y9;rw [bp c aY,EL c (by omega)];generalize hx:nth (nth c.j3 g).m9 i=x;generalize ht:nth c.j3 g=t;have hTO:=I7 c x.refs g;have hnil:J4 x.refs []=true->D4 c x.refs g= -1:=fun h=>by rw [ad4 h];exact ML aY hok
 have dV:0<=D4 c x.refs g->nth (nth (A6 c g) (D4 c x.refs g).toNat).2.2 0=(nth (nth c.j3 (D4 c x.refs g).toNat).m9 0).type:=fun h=>by
  have h1:(D4 c x.refs g).toNat<g:=by omega
  rw [L1 c h1];show nth (Q5 c _) 0=_
  rw [ql c (by omega),Rr _ (cM (eo (hok _ h1) (by omega))).1]
 generalize D4 c x.refs g=TO at *
 rcases A3 (J4 x.refs []) with hr|hr
 ·have h1:=hnil hr
  subst h1;have h2:W6 0 (-1)=false:=by simp [p5]
  simp only [hr,h2,Bool.not_true,Bool.false_and,Bool.and_false,Bool.or_false,b7,if_false];rw [Ev];simp only [Bool.false_or,Bool.not_or];exact az1 _ _ _ _ _ _ _ _ _
 ·rcases A3 (W6 0 TO) with h0|h0
  ·rw [dV (qD h0)]
   have h2:C7 TO 0=false:=by have:=qD h0;simp [p8];omega
   simp only [hr,h0,h2,Bool.not_false,Bool.true_and,Bool.and_true,Bool.and_false,b7,if_false];rw [Ev,MH x.type (nth (nth c.j3 TO.toNat).m9 0).type];simp only [Bool.not_or,hasB];exact az2 _ _ _ _ _ _ _ _ _ _ _
  ·have h2:C7 TO 0=true:=by have:=zS h0;simp [p8];omega
   simp only [hr,h0,h2,Bool.not_false,Bool.and_self,if_true]
theorem Dl {c:n5}{g:Nat}(hg:g<c.j3.length)(hok:bJ c g):∀ k i,tG c (A6 c g) (nth c.j3 g) k i=bS c g k i
 |0,_=>rfl
 |k+1,i=>by
  rw [tG,bS,Qy hg hok,Dl hg hok k (i+1)]
theorem LX (t:fu):ez t=(!n8 t.m9.length 1 8|| !n8 t.erase 0 1|| !n8 t.aI 0 1048576):=by
 have h2:n8 t.erase 0 1=(o9 t.erase 0||o9 t.erase 1):=by
  simp only [n8,p5,j9];rw [Bool.eq_iff_iff];simp only [b5,Bool.or_eq_true,decide_eq_true_eq,beq_iff_eq];omega
 unfold ez;rw [h2,Bool.not_or]
theorem CG {c:n5}{g:Nat}(hg:g<c.j3.length)(hok:bJ c g):gE c (A6 c g) (c.names.take g) (nth c.j3 g)=K2 c g:=by
 have he:=eP c g (nth c.j3 g).name (nG c hg) (dA c g) (by unfold K2;rw [if_pos hg]);rw [he];unfold gE dA;rw [LX,Dl hg hok]
theorem Jm {c:n5}{g:Nat}(hg:g<c.j3.length)(hok:bJ c g)(h0:K2 c g=0):rC c (A6 c g) (c.names.take g) (nth c.j3 g)=A6 c (g+1):=by
 unfold rC;rw [CG hg hok,h0,xQ];have h1:mM c g=((nth c.j3 g).name,(nth c.j3 g).m9.map Y6.name,(nth c.j3 g).m9.map Y6.type):=by
  unfold mM;rw [ql c hg,<- wL c (by unfold n5.ns;omega),nG c hg];unfold vQ ou;rw [if_pos hg]
 rw [h1];simp [j9]
theorem Cv (c:n5)(s:D6)(col:Int):cw (A6 c (n5.ns c)) s col=jG c s col:=by
 unfold cw jG;rw [bp c (k9 _)];have hb:=I7 c s (n5.ns c)
 rcases A3 (C7 (D4 c s (n5.ns c)) 0) with h|h
 ·simp only [h,if_true]
 ·have h1:=z8 h
  rw [L1 c (by omega)];rfl
theorem DJ (c:n5)(s:D6):(!dg c (A6 c (n5.ns c)) s)=C7 (dQ c s c.j3.length) 0:=by
 unfold dg;rw [bp c (k9 _),EL c (k9 _)];unfold D4;have h0:(n5.sn c).take (n5.ns c)=n5.sn c:=q7 (by rw [R2];exact k9 _);rw [h0];have h1:∀ (l:List D6) (k i:Nat),(B8 s (l.take k) i= -1/\(B8 s l i= -1\/((i:Int)+k<=B8 s l i/\k<=l.length)))\/(B8 s (l.take k) i=B8 s l i/\(i:Int)<=B8 s l i/\B8 s l i<i+k):=by
  intro l
  induction l with
  |nil=>intro k i;simp [B8]
  |cons x l ih =>
   intro k i;cases k with
   |zero =>
    left
    rcases bZ s (x::l) i with h|h
    ·exact ⟨rfl,Or.inl h⟩
    ·exact ⟨rfl,Or.inr ⟨by omega,by omega⟩⟩
   |succ k =>
    simp only [List.take_succ_cons,B8]
    rcases A3 (J4 x s) with hs|hs
    ·right
     simp only [hs,if_true];exact ⟨trivial,by omega,by omega⟩
    ·simp only [hs,b7,if_false]
     rcases ih k (i+1) with h|h
     ·left
      refine ⟨h.1,?_⟩
      rcases h.2 with h|h
      ·exact Or.inl h
      ·exact Or.inr ⟨by omega,by simp;omega⟩
     ·right
      omega
 rcases h1 (n5.sn c) c.j3.length 0 with h|h
 ·have e1:C7 (B8 s ((n5.sn c).take c.j3.length) 0) 0=true:=by simp only [p8,decide_eq_true_eq];omega
  have e2:n8 (B8 s (n5.sn c) 0) 0 (c.j3.length - 1)=false:=by simp only [n8,p5,Bool.and_eq_false_iff,decide_eq_false_iff_not];omega
  rw [e1,e2];rfl
 ·have e1:C7 (B8 s ((n5.sn c).take c.j3.length) 0) 0=false:=by simp only [p8,decide_eq_false_iff_not];omega
  have e2:n8 (B8 s (n5.sn c) 0) 0 (c.j3.length - 1)=true:=by simp only [n8,p5,b5,decide_eq_true_eq];omega
  rw [e1,e2];rfl
theorem Ms (c:n5):∀ seen l,Mc c (A6 c (n5.ns c)) seen l=SP c seen l
 |_,[]=>rfl
 |seen,t::r=>by
  rw [Mc,SP,DJ,Ms c (seen++[t]) r]
theorem R0 (c:n5){g i:Nat}{α:Type} [Inhabited α] (l1 l3:List D6)(l2:List α)(f:α->D6)(h:c.names=l1++l2.map f++l3)(hl:l1.length=g)(hi:i<l2.length):nth c.names (g+i)=f (nth l2 i):=by
 subst hl;rw [h,List.append_assoc,K0 (by simp;omega),List.getElem_append_right (by omega)];simp only [Nat.add_sub_cancel_left];rw [List.getElem_append_left (by simpa using hi),K0 hi];simp
theorem jk {c:n5}{g:Nat}(h:n5.ns c<=g):K2 c g=(if !E5 (nth c.names g) then 3 else if (c.names.take g).any fun y=>J4 y (nth c.names g) then 4 else U2 c (g - n5.ns c)):=by
 have h1:¬ g<c.j3.length:=by unfold n5.ns at h;omega
 have h2:¬ g<n5.ns c:=by omega
 unfold K2;simp only [h1,h2,if_false]
theorem IB {c:n5}{g i:Nat}(hg:g=n5.ns c+i)(hi:i<c.idxs.length):qB (A6 c (n5.ns c)) (c.names.take g) (nth c.idxs i)=K2 c g:=by
 have hn:nth c.names g=(nth c.idxs i).name:=by
  rw [hg];exact R0 c (n5.sn c) (c.F3.map iK.name++c.F9.map kP.name++c.J3.map jV.name++c.K9.map nq.name++c.M8.map nj.name) c.idxs iW.name (by simp [n5.names,n5.sn]) (R2 c) hi
 have he:=eP c g _ hn (U2 c (g - n5.ns c)) (jk (by omega));rw [he];have e1:U2 c (g - n5.ns c)=Ll c (nth c.idxs i):=by
  rw [hg,Nat.add_sub_cancel_left];unfold U2;rw [if_pos hi]
 rw [e1];unfold qB Ll;rw [Cv]
 rcases A3 (o9 (jG c (nth c.idxs i).source (nth c.idxs i).col).2 0) with h|h
 ·have h2:=X2 h
  simp only [h,Bool.not_true,b7,if_false,Bool.true_and];rw [h2]
 ·simp only [h,Bool.not_false,if_true,Bool.false_and,b7,if_false]
theorem Io {c:n5}{g i:Nat}(hg:g=n5.ns c+(c.idxs.length+c.F3.length)+i)(hi:i<c.F9.length):qg (A6 c (n5.ns c)) (c.names.take g) (nth c.F9 i)=K2 c g:=by
 have hn:nth c.names g=(nth c.F9 i).name:=by
  rw [hg];exact R0 c (n5.sn c++c.idxs.map iW.name++c.F3.map iK.name) (c.J3.map jV.name++c.K9.map nq.name++c.M8.map nj.name) c.F9 kP.name (by simp [n5.names,n5.sn]) (by simp [R2,I8]) hi
 have he:=eP c g _ hn (U2 c (g - n5.ns c)) (jk (by omega));rw [he];have e1:U2 c (g - n5.ns c)=KS c (nth c.F9 i):=by
  have hm:g - n5.ns c=c.idxs.length+c.F3.length+i:=by omega
  rw [hm];unfold U2;rw [if_neg (by omega),if_neg (by omega),if_pos (by omega)]
  congr 2
  omega
 rw [e1];unfold qg KS;rw [Cv]
 rcases A3 (o9 (jG c (nth c.F9 i).source (nth c.F9 i).col).2 0) with h|h
 ·have h2:=X2 h
  simp only [h,Bool.not_true,b7,if_false,Bool.true_and];rw [h2]
 ·simp only [h,Bool.not_false,if_true,Bool.false_and,b7,if_false]
theorem Jl {c:n5}{g i:Nat}(hg:g=n5.ns c+(c.idxs.length+c.F3.length+c.F9.length+c.J3.length)+i)(hi:i<c.K9.length):uJ c (A6 c (n5.ns c)) (c.names.take g) (nth c.K9 i)=K2 c g:=by
 have hn:nth c.names g=(nth c.K9 i).name:=by
  rw [hg];exact R0 c (n5.sn c++c.idxs.map iW.name++c.F3.map iK.name++c.F9.map kP.name++c.J3.map jV.name) (c.M8.map nj.name) c.K9 nq.name (by simp [n5.names,n5.sn]) (by simp [R2,I8]) hi
 have he:=eP c g _ hn (U2 c (g - n5.ns c)) (jk (by omega));rw [he];have e1:U2 c (g - n5.ns c)=LW c (nth c.K9 i):=by
  have hm:g - n5.ns c=(c.idxs.length+c.F3.length+c.F9.length+c.J3.length)+i:=by omega
  rw [hm];unfold U2;rw [if_neg (by omega),if_neg (by omega),if_neg (by omega),if_neg (by omega),if_pos (by omega)]
  congr 2
  omega
 rw [e1];unfold uJ LW;rw [DJ]
theorem Mt {c:n5}{g i:Nat}(hg:g=n5.ns c+(c.idxs.length+c.F3.length+c.F9.length+c.J3.length+c.K9.length)+i)(hi:i<c.M8.length):Ij c (A6 c (n5.ns c)) (c.names.take g) (nth c.M8 i)=K2 c g:=by
 have hn:nth c.names g=(nth c.M8 i).name:=by
  rw [hg];exact R0 c (n5.sn c++c.idxs.map iW.name++c.F3.map iK.name++c.F9.map kP.name++c.J3.map jV.name++c.K9.map nq.name) ([]) c.M8 nj.name (by simp [n5.names,n5.sn]) (by simp [R2,I8]) hi
 have he:=eP c g _ hn (U2 c (g - n5.ns c)) (jk (by omega));rw [he];have e1:U2 c (g - n5.ns c)=Da c (nth c.M8 i):=by
  have hm:g - n5.ns c=(c.idxs.length+c.F3.length+c.F9.length+c.J3.length+c.K9.length)+i:=by omega
  rw [hm];unfold U2;rw [if_neg (by omega),if_neg (by omega),if_neg (by omega),if_neg (by omega),if_neg (by omega)]
  congr 2
  omega
 rw [e1];unfold Ij Da;rw [Ms]
theorem Jf {c:n5}{g i:Nat}(hg:g=n5.ns c+(c.idxs.length)+i)(hi:i<c.F3.length):jE (A6 c (n5.ns c)) (c.names.take g) (nth c.F3 i)=K2 c g:=by
 have hn:nth c.names g=(nth c.F3 i).name:=by
  rw [hg];exact R0 c (n5.sn c++c.idxs.map iW.name) (c.F9.map kP.name++c.J3.map jV.name++c.K9.map nq.name++c.M8.map nj.name) c.F3 iK.name (by simp [n5.names,n5.sn]) (by simp [R2,I8]) hi
 have he:=eP c g _ hn (U2 c (g - n5.ns c)) (jk (by omega));rw [he];have e1:U2 c (g - n5.ns c)=ze c (nth c.F3 i):=by
  have hm:g - n5.ns c=(c.idxs.length)+i:=by omega
  rw [hm];unfold U2;rw [if_neg (by omega),if_pos (by omega)]
  congr 2
  omega
 rw [e1];unfold jE ze Co;rw [Cv];generalize nth c.F3 i=x;have h2:n8 x.kind 0 2=(o9 x.kind 0||o9 x.kind 1||o9 x.kind 2):=by
  simp only [n8,p5,j9];rw [Bool.eq_iff_iff];simp only [b5,Bool.or_eq_true,decide_eq_true_eq,beq_iff_eq];omega
 rw [h2];simp only [Bool.not_or]
 rcases A3 (!o9 x.kind 0&& !o9 x.kind 1&& !o9 x.kind 2) with h|h
 ·simp only [h,if_true,Bool.true_or]
 ·simp only [h,b7,if_false,Bool.false_or]
theorem IY {c:n5}{g i:Nat}(hg:g=n5.ns c+(c.idxs.length+c.F3.length+c.F9.length)+i)(hi:i<c.J3.length):qQ c (A6 c (n5.ns c)) (c.names.take g) (nth c.J3 i)=K2 c g:=by
 have hn:nth c.names g=(nth c.J3 i).name:=by
  rw [hg];exact R0 c (n5.sn c++c.idxs.map iW.name++c.F3.map iK.name++c.F9.map kP.name) (c.K9.map nq.name++c.M8.map nj.name) c.J3 jV.name (by simp [n5.names,n5.sn]) (by simp [R2,I8]) hi
 have he:=eP c g _ hn (U2 c (g - n5.ns c)) (jk (by omega));rw [he];have e1:U2 c (g - n5.ns c)=Er c (nth c.J3 i):=by
  have hm:g - n5.ns c=(c.idxs.length+c.F3.length+c.F9.length)+i:=by omega
  rw [hm];unfold U2;rw [if_neg (by omega),if_neg (by omega),if_neg (by omega),if_pos (by omega)]
  congr 2
  omega
 rw [e1];unfold qQ Er RS;rw [bp c (k9 _)];have h2:C7 (D4 c (nth c.J3 i).source (n5.ns c) - c.j3.length) 0=C7 (D4 c (nth c.J3 i).source (n5.ns c)) c.j3.length:=by
  simp only [p8];exact decide_eq_decide.2 (by omega)
 rw [h2]
theorem yf (k:Int):n8 k 0 2=(o9 k 0||o9 k 1||o9 k 2):=by
 simp only [n8,p5,j9];rw [Bool.eq_iff_iff];simp only [b5,Bool.or_eq_true,decide_eq_true_eq,beq_iff_eq];omega
theorem OA {v:Vw}(h:n8 v.kind 0 2=true):gD v=ct v:=by
 have h1:C7 0 v.on.length= !o9 v.on.length 0:=by
  simp only [j9,p8];rw [Bool.eq_iff_iff];simp only [decide_eq_true_eq,j5,beq_eq_false_iff_ne];omega
 have h2:C7 8 v.on.length= !W6 v.on.length 8:=by
  simp only [p5,p8];rw [Bool.eq_iff_iff];simp only [decide_eq_true_eq,j5,decide_eq_false_iff_not];omega
 rw [yf] at h;unfold gD ct mJ;rw [h1,h2];have hx:o9 v.kind 0=true->o9 v.kind 1=false/\o9 v.kind 2=false:=fun h=>by
  have:=X2 h;simp [j9];omega
 have hy:o9 v.kind 1=true->o9 v.kind 2=false:=fun h=>by
  have:=X2 h;simp [j9];omega
 revert h hx hy;generalize o9 v.kind 0=a0;generalize o9 v.kind 1=a1;generalize o9 v.kind 2=a2;generalize J4 v.right []=a3;generalize o9 (v.on.length:Int) 0=a4;generalize W6 (v.on.length:Int) 8=a5;generalize o9 (v.items.length:Int) 0=a6;generalize C7 0 (v.C2.length:Int)=a7;generalize o9 (v.C2.length:Int) 0=a8;generalize v.distinct=a9;generalize W6 ((v.items.length:Int)+v.C2.length) 8=b1;generalize o9 (v.wh.length:Int) 0=b2;cases a0<;>cases a1<;>cases a2<;>cases a3<;>cases a4<;>cases a5<;>simp
theorem To {c:n5}{g:Nat}(hg:g<=n5.ns c)(h:0<=D4 c (U5 c g).left g):(R3 (A6 c g) (U5 c g).left).2.2=lT c g:=by
 have hb:=I7 c (U5 c g).left g;unfold R3 lT;rw [bp c hg,L1 c (by omega),W0 c (by omega)];rfl
theorem TT {c:n5}{g:Nat}(hg:g<=n5.ns c)(h:J4 (U5 c g).right []=false->0<=D4 c (U5 c g).right g):(pQ (A6 c g) (U5 c g)).2.2=rT c g:=by
 have hb:=I7 c (U5 c g).right g;unfold pQ rT R3
 rcases A3 (J4 (U5 c g).right []) with hr|hr
 ·rw [hr];rfl
 ·have:=h hr
  rw [hr,if_neg (by simp),if_neg (by simp),bp c hg,L1 c (by omega),W0 c (by omega)];rfl
theorem kE (c:n5){g:Nat}(h:c.j3.length<=g)(h2:g<n5.ns c):nth c.names g=(U5 c g).name:=by
 have hv:g - c.j3.length<c.views.length:=by unfold n5.ns at h2;omega
 have:=R0 c (i:=g - c.j3.length) (c.j3.map fu.name) (c.idxs.map iW.name++c.F3.map iK.name++c.F9.map kP.name++c.J3.map jV.name++c.K9.map nq.name++c.M8.map nj.name) c.views Vw.name (by simp [n5.names]) (g:=c.j3.length) (by simp) hv;rw [show c.j3.length+(g - c.j3.length)=g by omega] at this;exact this
theorem ye {c:n5}{g:Nat}(h:c.j3.length<=g)(h2:g<n5.ns c):S7 (A6 c g) (c.names.take g) (U5 c g)=K2 c g:=by
 have hg:g<=n5.ns c:=by omega
 have he:=eP c g _ (kE c h h2) (V0 c g) (by
  have h3:¬ g<c.j3.length:=by omega
  unfold K2;simp only [h3,h2,if_false,if_true])
 rw [he];unfold S7 V0;rw [yf,bp c hg,bp c hg];simp only [Bool.not_or]
 rcases A3 (!o9 (U5 c g).kind 0&& !o9 (U5 c g).kind 1&& !o9 (U5 c g).kind 2) with k1|k1
 ·simp only [k1,if_true]
 ·simp only [k1,b7,if_false]
  rcases A3 (C7 (D4 c (U5 c g).left g) 0||(!J4 (U5 c g).right []&&C7 (D4 c (U5 c g).right g) 0)) with k2|k2
  ·simp only [k2,if_true]
  ·have k2' :=k2
   simp only [L6] at k2';have f1:=z8 k2'.1;have f2:J4 (U5 c g).right []=false->0<=D4 c (U5 c g).right g:=fun h=>by
    have:=k2'.2;simp only [h,Bool.not_false,Bool.true_and] at this;exact z8 this
   have hk:n8 (U5 c g).kind 0 2=true:=by
    rw [yf];have:=congrArg (! ·) k1;simpa using this
   rw [OA hk,To hg f1,TT hg f2];simp only [k2,b7,if_false];rfl
theorem Fe {c:n5}{g:Nat}(h:c.j3.length<=g)(h2:g<n5.ns c)(h0:K2 c g=0):dX (A6 c g) (c.names.take g) (U5 c g)=A6 c (g+1):=by
 have hg:g<=n5.ns c:=by omega
 have hs:=cQ (bX h0 h h2);have hb:=I7 c (U5 c g).left g;have h00:o9 0 0=true:=by simp [j9]
 have hn:nth (n5.sn c) g=(U5 c g).name:=by rw [<- wL c h2,kE c h h2]
 have hnt:¬ g<c.j3.length:=by omega
 unfold dX;rw [ye h h2,h0,h00,if_pos rfl,xQ]
 rcases A3 (o9 (U5 c g).kind 2) with hk|hk
 ·have e1:mM c g=((U5 c g).name,(R3 (A6 c g) (U5 c g).left).2.1,(R3 (A6 c g) (U5 c g).left).2.2):=by
   have hk' :o9 (nth c.views (g - c.j3.length)).kind 2=true:=hk;have f1:0<=D4 c (nth c.views (g - c.j3.length)).left g:=hs.2.1;have hb' :=I7 c (nth c.views (g - c.j3.length)).left g;unfold mM R3;rw [hn,bp c hg,L1 c (by omega)];unfold Q5 vQ iw ou;rw [if_neg hnt,if_neg hnt,hk',if_pos rfl,if_pos rfl,W0 c (by omega),qH c (by omega)];rfl
  rw [hk,if_pos rfl,e1]
 ·have e1:mM c g=((U5 c g).name,(X1 (U5 c g)).map CR.name,X7 (U5 c g) ((R3 (A6 c g) (U5 c g).left).2.2++(pQ (A6 c g) (U5 c g)).2.2)):=by
   have hk' :o9 (nth c.views (g - c.j3.length)).kind 2=false:=hk;rw [To hg hs.2.1,TT hg hs.2.2.1];unfold mM;rw [hn];unfold Q5 vQ iw ou;rw [if_neg hnt,if_neg hnt,hk',if_neg (by simp),if_neg (by simp)];rfl
  rw [hk,if_neg (by simp),e1]
theorem LP {v:Vw}(hk:n8 v.kind 0 2=true)(h:ct v=true)(h2:o9 v.kind 2=false):0<v.items.length+v.C2.length:=by
 unfold ct at h;rw [h2,if_neg (by simp)] at h
 rcases A3 (o9 v.kind 0) with h0|h0
 ·rw [h0,if_pos rfl] at h
  simp only [b5,j5,L6] at h;have:=qp h.1.1;omega
 ·rw [h0,if_neg (by simp)] at h
  simp only [b5,j5,L6] at h;have:=qp h.1.1;omega
theorem rj {c:n5}(hs:C0 c):∀ (n k:Nat),k<n->n<=n5.ns c->bJ c n->0<(Q5 c k).length/\0<(vQ c k).length/\(vQ c k).length<=2000
 |0,k,h,_,_=>absurd h (by omega)
 |n+1,k,h,hn,ho=>by
  rcases p9 k n with h1|h1
  ·exact rj hs n k h1 (by omega) (fun m hm=>ho m (by omega))
  obtain rfl:k=n:=by omega
  rcases p9 k c.j3.length with h2|h2
  ·have h3:=hs.sm.m9 k h2
   have h4:=(cM (eo (ho k (by omega)) h2)).1;unfold Q5 vQ iw ou;rw [if_pos h2,if_pos h2];simp;omega
  ·have h3:¬ k<c.j3.length:=by omega
   have hv:k - c.j3.length<c.views.length:=by unfold n5.ns at hn;omega
   have hsr:=cQ (bX (ho k (by omega)) h2 (by omega));unfold U5 at hsr;unfold Q5 vQ iw ou;rw [if_neg h3,if_neg h3]
   rcases A3 (o9 (nth c.views (k - c.j3.length)).kind 2) with hk|hk
   ·have hb:=I7 c (nth c.views (k - c.j3.length)).left k
    have f1:=hsr.2.1;rw [hk,if_pos rfl,if_pos rfl,W0 c (by omega),qH c (by omega)];exact rj hs k _ (by omega) (by omega) (fun m hm=>ho m (by omega))
   ·have h5:=LP hsr.1 hsr.2.2.2 hk
    have h6:=hs.items _ hv;have h7:=hs.C2 _ hv;rw [hk,if_neg (by simp),if_neg (by simp),List.length_map,eS];simp only [X7,C1,List.length_map];omega
end Go.Proofs.YtkmclibmmlgogaaGreat

