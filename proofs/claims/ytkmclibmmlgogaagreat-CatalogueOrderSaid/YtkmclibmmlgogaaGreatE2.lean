/- Texts D33 D34 D35 D36 D37 D38 D39 (made short by a program) -/
import Derived.Test.YtkmclibmmlgogaaGreatE1
set_option linter.unusedVariables false
set_option linter.unusedSimpArgs false
open Bool renaming and_eq_true → b5, eq_false_or_eq_true → y5, false_eq_true → b7, not_eq_false' → B4, not_eq_true' → j9
open List renaming length_append → C1, take_of_length_le → s6
open Nat renaming add_assoc → H9, le_refl → l5, lt_or_ge → p7
namespace Go.Proofs.YtkmclibmmlgogaaGreat
open Go.u7 Go.u7.S
def th (c:m9)(prev:List (List C7))(k:Nat):List C7 :=
 if k<c.j3.length then (nth c.j3 k).m8.map W6.name
 else if o8 (nth c.views (k - c.j3.length)).kind 2 then nth prev (D4 c (nth c.views (k - c.j3.length)).left k).toNat
 else (W9 (nth c.views (k - c.j3.length))).map FA.name
def Dt (c:m9):Nat->List (List C7)
 |0=>[]
 |k+1=>Dt c k++[th c (Dt c k) k]
def FY (c:m9)(k:Nat):List C7:=th c (Dt c k) k
theorem Du (c:m9):∀ k,(Dt c k).length=k
 |0=>rfl
 |k+1=>by simp [Dt,Du c k]
theorem pY (c:m9):∀ {k j:Nat},j<k->nth (Dt c k) j=FY c j
 |k+1,j,h=>by
  have hl:=Du c k
  rcases p7 j k with h1|h1
  ·rw [<- pY c h1,Dt,N6 (by simp;omega),N6 (by omega),List.getElem_append_left (by omega)]
  ·obtain rfl:j=k:=by omega
   rw [Dt,N6 (by simp [hl]),List.getElem_append_right (by omega)];simp [hl,FY]
def mb (c:m9)(j:Nat):W5:=(nth (m9.sn c) j,FY c j,P8 c j)
def z7 (c:m9)(k:Nat):List W5:=(List.range k).map (mb c)
theorem C4 (c:m9)(k:Nat):(z7 c k).length=k:=by simp [z7]
theorem K2 (c:m9){k j:Nat}(h:j<k):nth (z7 c k) j=mb c j:=by
 rw [N6 (by rw [C4];exact h)];simp [z7]
theorem wZ (c:m9)(k:Nat):z7 c (k+1)=z7 c k++[mb c k]:=by simp [z7,List.range_succ]
theorem mc (c:m9){k:Nat}(h:k<=m9.ns c):(z7 c k).map (·.1)=(m9.sn c).take k:=by
 apply List.ext_getElem
 ·have:=Q2 c
  simp [z7];omega
 ·intro i h1 h2
  have h3:i<k:=by simpa [z7] using h1
  have h4:i<(m9.sn c).length:=by rw [Q2];omega
  simp [z7,mb,N6 h4]
theorem aM (c:m9){k:Nat}(h:k<=m9.ns c)(s:C7):A8 s ((z7 c k).map (·.1)) 0=D4 c s k:=by rw [mc c h];rfl
theorem mX (c:m9){g:Nat}(h:g<c.j3.length):nth c.names g=(nth c.j3 g).name:=by
 rw [N6 (by simp [m9.names];omega),N6 h];simp [m9.names,List.getElem_append,h]
theorem eB (c:m9)(g:Nat)(s:C7)(h:nth c.names g=s)(e:Int)(he:J2 c g=(if !D3 (nth c.names g) then 3 else if (c.names.take g).any fun y=>I9 y (nth c.names g) then 4 else e)) :
  J2 c g=if !o8 (E0 (c.names.take g) s) 0 then E0 (c.names.take g) s else e:=by
 rw [he,h];unfold E0;have h3:o8 3 0=false:=by simp [j5]
 have h4:o8 4 0=false:=by simp [j5]
 have h0:o8 0 0=true:=by simp [j5]
 rcases y5 (D3 s) with c1|c1
 ·rcases y5 ((c.names.take g).any fun y=>I9 y s) with c2|c2
  ·simp only [c1,c2,Bool.not_true,b7,if_false,if_true,h4,Bool.not_false]
  ·simp only [c1,c2,Bool.not_true,b7,if_false,h0]
 ·simp only [c1,Bool.not_false,if_true,h3]
theorem Q4 (c:m9)(g:Nat)(hg:g<c.names.length)(h:J2 c g=0):A1 (c.names.take g) (nth c.names g)=c.names.take (g+1):=by
 have h1:=jG h;have e1:E0 (c.names.take g) (nth c.names g)=0:=by unfold E0;rw [h1.1,h1.2];rfl
 unfold A1;rw [e1,I6 hg];simp [j5]
theorem uB (c:m9){g:Nat}(h:g<=m9.ns c)(s:C7)(hs:((c.names.take g).any fun y=>I9 y s)=false):(((z7 c g).map (·.1)).any fun y=>I9 y s)=false:=by
 rw [mc c h];have h1:c.names=m9.sn c++(c.idxs.map gD.name++c.D6.map gv.name++c.E3.map jy.name++c.G9.map iO.name++c.J3.map kI.name++c.K8.map kH.name):=by simp [m9.names,m9.sn]
 have h2:c.names.take g=(m9.sn c).take g:=by
  rw [h1,List.take_append_of_le_length (by rw [Q2];exact h)]
 rw [<- h2];exact hs
theorem Dc:∀ (l:List C7) (i:Nat),(∀ x,x ∈ l->x≠[])->A8 [] l i= -1
 |[],_,_=>rfl
 |x::l,i,h=>by
  have h1:I9 x []=false:=by simp [A3,h x (List.mem_cons_self)]
  simp only [A8,h1,b7,if_false];exact Dc l (i+1) fun y hy=>h y (List.mem_cons_of_mem _ hy)
theorem Qw {s:C7}(h:D3 s=true):s≠[]:=by
 rintro rfl;simp [D3] at h
theorem Rp (c:m9){g:Nat}(h:g<=m9.ns c):(m9.sn c).take g=c.names.take g:=by
 have h1:c.names=m9.sn c++(c.idxs.map gD.name++c.D6.map gv.name++c.E3.map jy.name++c.G9.map iO.name++c.J3.map kI.name++c.K8.map kH.name):=by simp [m9.names,m9.sn]
 rw [h1,List.take_append_of_le_length (by rw [Q2];exact h)]
theorem Mi {c:m9}{g:Nat}(hg:g<=m9.ns c)(hok:br c g):D4 c [] g= -1:=by
 unfold D4;apply Dc;intro x hx;rw [Rp c hg] at hx;obtain ⟨j,hj,rfl⟩:=List.getElem_of_mem hx;have h1:j<g:=by simp at hj;omega
 have h2:=jG (hok j h1);have h3:j<c.names.length:=by simp at hj;omega
 rw [N6 h3] at h2;have h4:=h2.1;simp only [B4] at h4;simpa using Qw h4
theorem Eg (c:m9){g:Nat}(h:g<=c.j3.length)(s:C7):dm c s g=D4 c s g:=by
 unfold dm;rw [Nat.min_eq_left h]
theorem pe (c:m9){k:Nat}(h:k<c.j3.length):P8 c k=(nth c.j3 k).m8.map W6.type:=by
 unfold P8 gh;rw [if_pos h]
theorem QA {α β:Type} [Inhabited α] [Inhabited β] (f:α->β){l:List α}{i:Nat}(h:i<l.length):nth (l.map f) i=f (nth l i):=by
 rw [N6 (by simpa using h),N6 h];simp
theorem Md (a b:Int):o8 a b=o8 b a:=by
 simp only [j5];rw [Bool.eq_iff_iff];simp only [beq_iff_eq];exact eq_comm
theorem DS (t:er)(x:W6):(!iB t x)=((!n7 x.dD 0 1||(o8 x.A7.length 0&&(!o8 x.dD 0|| !o8 x.gw 0)))||(!n7 x.gw 0 1048576||(!o8 t.X9 0&&C2 t.X9 x.gw))):=by
 have h1:o8 x.A7.length 0= !C2 0 x.A7.length:=by
  simp only [j5,o9];rw [Bool.eq_iff_iff];simp only [beq_iff_eq,j9,decide_eq_false_iff_not];omega
 have h2:n7 x.dD 0 1=(o8 x.dD 0||o8 x.dD 1):=by
  simp only [n7,o5,j5];rw [Bool.eq_iff_iff];simp only [b5,Bool.or_eq_true,decide_eq_true_eq,beq_iff_eq];omega
 have h3:C2 t.X9 x.gw= !X4 x.gw t.X9:=by
  simp only [o5,o9];rw [Bool.eq_iff_iff];simp only [decide_eq_true_eq,j9,decide_eq_false_iff_not];omega
 unfold iB;rw [h1,h2,h3];generalize o8 x.dD 0=a1;generalize o8 x.dD 1=a2;generalize C2 0 (x.A7.length:Int)=a3;generalize n7 x.gw 0 1048576=a4;generalize o8 x.gw 0=a5;generalize o8 t.X9 0=a6;generalize X4 x.gw t.X9=a7;revert a1 a2 a3 a4 a5 a6 a7
 decide
theorem ar2:∀ (A B C ow wj Z wd ret E:Bool),(if A=true then (3:Int) else if B=true then 4 else if C=true then 5 else if (ow||((wj||Z)||(wd||ret)))=true then 1 else if E=true then 1 else 0)=(if A=true then (3:Int) else if B=true then 4 else if C=true then 5 else if (ow||wj||Z)=true then 1 else if (wd||ret||E)=true then 1 else 0):=by decide
theorem ar3:∀ (A B C sp ow wj Z wd ret E F:Bool),(if A=true then (3:Int) else if B=true then 4 else if C=true then 5 else if (sp||ow||((wj||Z)||(wd||ret)))=true then 1 else if E=true then 1 else if F=true then 1 else 0)=(if A=true then (3:Int) else if B=true then 4 else if C=true then 5 else if (sp||ow||wj||Z)=true then 1 else if (wd||ret||E)=true then 1 else if F=true then 1 else 0):=by decide
set_option maxHeartbeats 4000000 in
theorem PN {c:m9}{g i:Nat}(hg:g<c.j3.length)(hok:br c g):dg c (z7 c g) (nth c.j3 g) i=X6 c g i:=by
 have aN:g<=m9.ns c:=by unfold m9.ns;omega
 unfold dg X6;rw [aM c aN,Eg c (by omega)];generalize hx:nth (nth c.j3 g).m8 i=x;generalize ht:nth c.j3 g=t;have hTO:=G8 c x.refs g;have hnil:I9 x.refs []=true->D4 c x.refs g= -1:=fun h=>by rw [Zm h];exact Mi aN hok
 have dy:0<=D4 c x.refs g->nth (nth (z7 c g) (D4 c x.refs g).toNat).2.2 0=(nth (nth c.j3 (D4 c x.refs g).toNat).m8 0).type:=fun h=>by
  have h1:(D4 c x.refs g).toNat<g:=by omega
  rw [K2 c h1];show nth (P8 c _) 0=_
  rw [pe c (by omega),QA _ (cy (dU (hok _ h1) (by omega))).1]
 generalize D4 c x.refs g=TO at *
 rcases y5 (I9 x.refs []) with hr|hr
 ·have h1:=hnil hr
  subst h1;have h2:X4 0 (-1)=false:=by simp [o5]
  simp only [hr,h2,Bool.not_true,Bool.false_and,Bool.and_false,Bool.or_false,b7,if_false];rw [DS];simp only [Bool.false_or,Bool.not_or];exact ar2 _ _ _ _ _ _ _ _ _
 ·rcases y5 (X4 0 TO) with h0|h0
  ·rw [dy (pO h0)]
   have h2:C2 TO 0=false:=by have:=pO h0;simp [o9];omega
   simp only [hr,h0,h2,Bool.not_false,Bool.true_and,Bool.and_true,Bool.and_false,b7,if_false];rw [DS,Md x.type (nth (nth c.j3 TO.toNat).m8 0).type];simp only [Bool.not_or,hasB];exact ar3 _ _ _ _ _ _ _ _ _ _ _
  ·have h2:C2 TO 0=true:=by have:=zd h0;simp [o9];omega
   simp only [hr,h0,h2,Bool.not_false,Bool.and_self,if_true]
theorem CC {c:m9}{g:Nat}(hg:g<c.j3.length)(hok:br c g):∀ k i,sH c (z7 c g) (nth c.j3 g) k i=bD c g k i
 |0,_=>rfl
 |k+1,i=>by
  rw [sH,bD,PN hg hok,CC hg hok k (i+1)]
theorem Ll (t:er):ec t=(!n7 t.m8.length 1 8|| !n7 t.erase 0 1|| !n7 t.X9 0 1048576):=by
 have h2:n7 t.erase 0 1=(o8 t.erase 0||o8 t.erase 1):=by
  simp only [n7,o5,j5];rw [Bool.eq_iff_iff];simp only [b5,Bool.or_eq_true,decide_eq_true_eq,beq_iff_eq];omega
 unfold ec;rw [h2,Bool.not_or]
theorem BX {c:m9}{g:Nat}(hg:g<c.j3.length)(hok:br c g):gj c (z7 c g) (c.names.take g) (nth c.j3 g)=J2 c g:=by
 have he:=eB c g (nth c.j3 g).name (mX c hg) (cU c g) (by unfold J2;rw [if_pos hg]);rw [he];unfold gj cU;rw [Ll,CC hg hok]
theorem II {c:m9}{g:Nat}(hg:g<c.j3.length)(hok:br c g)(h0:J2 c g=0):qu c (z7 c g) (c.names.take g) (nth c.j3 g)=z7 c (g+1):=by
 unfold qu;rw [BX hg hok,h0,wZ];have h1:mb c g=((nth c.j3 g).name,(nth c.j3 g).m8.map W6.name,(nth c.j3 g).m8.map W6.type):=by
  unfold mb;rw [pe c hg,<- vM c (by unfold m9.ns;omega),mX c hg];unfold FY th;rw [if_pos hg]
 rw [h1];simp [j5]
theorem BN (c:m9)(s:C7)(col:Int):bV (z7 c (m9.ns c)) s col=jk c s col:=by
 unfold bV jk;rw [aM c (l5 _)];have hb:=G8 c s (m9.ns c)
 rcases y5 (C2 (D4 c s (m9.ns c)) 0) with h|h
 ·simp only [h,if_true]
 ·have h1:=z8 h
  rw [K2 c (by omega)];rfl
theorem De (c:m9)(s:C7):(!cN c (z7 c (m9.ns c)) s)=C2 (dm c s c.j3.length) 0:=by
 unfold cN;rw [aM c (l5 _),Eg c (l5 _)];unfold D4;have h0:(m9.sn c).take (m9.ns c)=m9.sn c:=s6 (by rw [Q2];exact l5 _);rw [h0];have h1:∀ (l:List C7) (k i:Nat),(A8 s (l.take k) i= -1/\(A8 s l i= -1\/((i:Int)+k<=A8 s l i/\k<=l.length)))\/(A8 s (l.take k) i=A8 s l i/\(i:Int)<=A8 s l i/\A8 s l i<i+k):=by
  intro l
  induction l with
  |nil=>intro k i;simp [A8]
  |cons x l ih =>
   intro k i;cases k with
   |zero =>
    left
    rcases bJ s (x::l) i with h|h
    ·exact ⟨rfl,Or.inl h⟩
    ·exact ⟨rfl,Or.inr ⟨by omega,by omega⟩⟩
   |succ k =>
    simp only [List.take_succ_cons,A8]
    rcases y5 (I9 x s) with hs|hs
    ·right
     simp only [hs,if_true];exact ⟨trivial,by omega,by omega⟩
    ·simp only [hs,b7,if_false]
     rcases ih k (i+1) with h|h
     ·left
      refine ⟨h.1,?_⟩
      rcases h.2 with h|h
      ·exact Or.inl h
      ·exact Or.inr ⟨by omega,by simp;omega⟩
     ·right
      omega
 rcases h1 (m9.sn c) c.j3.length 0 with h|h
 ·have e1:C2 (A8 s ((m9.sn c).take c.j3.length) 0) 0=true:=by simp only [o9,decide_eq_true_eq];omega
  have e2:n7 (A8 s (m9.sn c) 0) 0 (c.j3.length - 1)=false:=by simp only [n7,o5,Bool.and_eq_false_iff,decide_eq_false_iff_not];omega
  rw [e1,e2];rfl
 ·have e1:C2 (A8 s ((m9.sn c).take c.j3.length) 0) 0=false:=by simp only [o9,decide_eq_false_iff_not];omega
  have e2:n7 (A8 s (m9.sn c) 0) 0 (c.j3.length - 1)=true:=by simp only [n7,o5,b5,decide_eq_true_eq];omega
  rw [e1,e2];rfl
theorem LN (c:m9):∀ seen l,Lt c (z7 c (m9.ns c)) seen l=RN c seen l
 |_,[]=>rfl
 |seen,t::r=>by
  rw [Lt,RN,De,LN c (seen++[t]) r]
theorem Q0 (c:m9){g i:Nat}{α:Type} [Inhabited α] (l1 l3:List C7)(l2:List α)(f:α->C7)(h:c.names=l1++l2.map f++l3)(hl:l1.length=g)(hi:i<l2.length):nth c.names (g+i)=f (nth l2 i):=by
 subst hl;rw [h,List.append_assoc,N6 (by simp;omega),List.getElem_append_right (by omega)];simp only [Nat.add_sub_cancel_left];rw [List.getElem_append_left (by simpa using hi),N6 hi];simp
theorem iV {c:m9}{g:Nat}(h:m9.ns c<=g):J2 c g=(if !D3 (nth c.names g) then 3 else if (c.names.take g).any fun y=>I9 y (nth c.names g) then 4 else T4 c (g - m9.ns c)):=by
 have h1:¬ g<c.j3.length:=by unfold m9.ns at h;omega
 have h2:¬ g<m9.ns c:=by omega
 unfold J2;simp only [h1,h2,if_false]
theorem HW {c:m9}{g i:Nat}(hg:g=m9.ns c+i)(hi:i<c.idxs.length):pN (z7 c (m9.ns c)) (c.names.take g) (nth c.idxs i)=J2 c g:=by
 have hn:nth c.names g=(nth c.idxs i).name:=by
  rw [hg];exact Q0 c (m9.sn c) (c.D6.map gv.name++c.E3.map jy.name++c.G9.map iO.name++c.J3.map kI.name++c.K8.map kH.name) c.idxs gD.name (by simp [m9.names,m9.sn]) (Q2 c) hi
 have he:=eB c g _ hn (T4 c (g - m9.ns c)) (iV (by omega));rw [he];have e1:T4 c (g - m9.ns c)=KC c (nth c.idxs i):=by
  rw [hg,Nat.add_sub_cancel_left];unfold T4;rw [if_pos hi]
 rw [e1];unfold pN KC;rw [BN]
 rcases y5 (o8 (jk c (nth c.idxs i).source (nth c.idxs i).col).2 0) with h|h
 ·have h2:=X2 h
  simp only [h,Bool.not_true,b7,if_false,Bool.true_and];rw [h2]
 ·simp only [h,Bool.not_false,if_true,Bool.false_and,b7,if_false]
theorem HJ {c:m9}{g i:Nat}(hg:g=m9.ns c+(c.idxs.length+c.D6.length)+i)(hi:i<c.E3.length):oW (z7 c (m9.ns c)) (c.names.take g) (nth c.E3 i)=J2 c g:=by
 have hn:nth c.names g=(nth c.E3 i).name:=by
  rw [hg];exact Q0 c (m9.sn c++c.idxs.map gD.name++c.D6.map gv.name) (c.G9.map iO.name++c.J3.map kI.name++c.K8.map kH.name) c.E3 jy.name (by simp [m9.names,m9.sn]) (by simp [Q2,H9]) hi
 have he:=eB c g _ hn (T4 c (g - m9.ns c)) (iV (by omega));rw [he];have e1:T4 c (g - m9.ns c)=Ki c (nth c.E3 i):=by
  have hm:g - m9.ns c=c.idxs.length+c.D6.length+i:=by omega
  rw [hm];unfold T4;rw [if_neg (by omega),if_neg (by omega),if_pos (by omega)]
  congr 2
  omega
 rw [e1];unfold oW Ki;rw [BN]
 rcases y5 (o8 (jk c (nth c.E3 i).source (nth c.E3 i).col).2 0) with h|h
 ·have h2:=X2 h
  simp only [h,Bool.not_true,b7,if_false,Bool.true_and];rw [h2]
 ·simp only [h,Bool.not_false,if_true,Bool.false_and,b7,if_false]
theorem IG {c:m9}{g i:Nat}(hg:g=m9.ns c+(c.idxs.length+c.D6.length+c.E3.length+c.G9.length)+i)(hi:i<c.J3.length):tY c (z7 c (m9.ns c)) (c.names.take g) (nth c.J3 i)=J2 c g:=by
 have hn:nth c.names g=(nth c.J3 i).name:=by
  rw [hg];exact Q0 c (m9.sn c++c.idxs.map gD.name++c.D6.map gv.name++c.E3.map jy.name++c.G9.map iO.name) (c.K8.map kH.name) c.J3 kI.name (by simp [m9.names,m9.sn]) (by simp [Q2,H9]) hi
 have he:=eB c g _ hn (T4 c (g - m9.ns c)) (iV (by omega));rw [he];have e1:T4 c (g - m9.ns c)=Lj c (nth c.J3 i):=by
  have hm:g - m9.ns c=(c.idxs.length+c.D6.length+c.E3.length+c.G9.length)+i:=by omega
  rw [hm];unfold T4;rw [if_neg (by omega),if_neg (by omega),if_neg (by omega),if_neg (by omega),if_pos (by omega)]
  congr 2
  omega
 rw [e1];unfold tY Lj;rw [De]
theorem LO {c:m9}{g i:Nat}(hg:g=m9.ns c+(c.idxs.length+c.D6.length+c.E3.length+c.G9.length+c.J3.length)+i)(hi:i<c.K8.length):HC c (z7 c (m9.ns c)) (c.names.take g) (nth c.K8 i)=J2 c g:=by
 have hn:nth c.names g=(nth c.K8 i).name:=by
  rw [hg];exact Q0 c (m9.sn c++c.idxs.map gD.name++c.D6.map gv.name++c.E3.map jy.name++c.G9.map iO.name++c.J3.map kI.name) ([]) c.K8 kH.name (by simp [m9.names,m9.sn]) (by simp [Q2,H9]) hi
 have he:=eB c g _ hn (T4 c (g - m9.ns c)) (iV (by omega));rw [he];have e1:T4 c (g - m9.ns c)=Cp c (nth c.K8 i):=by
  have hm:g - m9.ns c=(c.idxs.length+c.D6.length+c.E3.length+c.G9.length+c.J3.length)+i:=by omega
  rw [hm];unfold T4;rw [if_neg (by omega),if_neg (by omega),if_neg (by omega),if_neg (by omega),if_neg (by omega)]
  congr 2
  omega
 rw [e1];unfold HC Cp;rw [LN]
theorem IB {c:m9}{g i:Nat}(hg:g=m9.ns c+(c.idxs.length)+i)(hi:i<c.D6.length):ji (z7 c (m9.ns c)) (c.names.take g) (nth c.D6 i)=J2 c g:=by
 have hn:nth c.names g=(nth c.D6 i).name:=by
  rw [hg];exact Q0 c (m9.sn c++c.idxs.map gD.name) (c.E3.map jy.name++c.G9.map iO.name++c.J3.map kI.name++c.K8.map kH.name) c.D6 gv.name (by simp [m9.names,m9.sn]) (by simp [Q2,H9]) hi
 have he:=eB c g _ hn (T4 c (g - m9.ns c)) (iV (by omega));rw [he];have e1:T4 c (g - m9.ns c)=yp c (nth c.D6 i):=by
  have hm:g - m9.ns c=(c.idxs.length)+i:=by omega
  rw [hm];unfold T4;rw [if_neg (by omega),if_pos (by omega)]
  congr 2
  omega
 rw [e1];unfold ji yp BE;rw [BN];generalize nth c.D6 i=x;have h2:n7 x.kind 0 2=(o8 x.kind 0||o8 x.kind 1||o8 x.kind 2):=by
  simp only [n7,o5,j5];rw [Bool.eq_iff_iff];simp only [b5,Bool.or_eq_true,decide_eq_true_eq,beq_iff_eq];omega
 rw [h2];simp only [Bool.not_or]
 rcases y5 (!o8 x.kind 0&& !o8 x.kind 1&& !o8 x.kind 2) with h|h
 ·simp only [h,if_true,Bool.true_or]
 ·simp only [h,b7,if_false,Bool.false_or]
theorem Iu {c:m9}{g i:Nat}(hg:g=m9.ns c+(c.idxs.length+c.D6.length+c.E3.length)+i)(hi:i<c.G9.length):qh c (z7 c (m9.ns c)) (c.names.take g) (nth c.G9 i)=J2 c g:=by
 have hn:nth c.names g=(nth c.G9 i).name:=by
  rw [hg];exact Q0 c (m9.sn c++c.idxs.map gD.name++c.D6.map gv.name++c.E3.map jy.name) (c.J3.map kI.name++c.K8.map kH.name) c.G9 iO.name (by simp [m9.names,m9.sn]) (by simp [Q2,H9]) hi
 have he:=eB c g _ hn (T4 c (g - m9.ns c)) (iV (by omega));rw [he];have e1:T4 c (g - m9.ns c)=DN c (nth c.G9 i):=by
  have hm:g - m9.ns c=(c.idxs.length+c.D6.length+c.E3.length)+i:=by omega
  rw [hm];unfold T4;rw [if_neg (by omega),if_neg (by omega),if_neg (by omega),if_pos (by omega)]
  congr 2
  omega
 rw [e1];unfold qh DN QT;rw [aM c (l5 _)];have h2:C2 (D4 c (nth c.G9 i).source (m9.ns c) - c.j3.length) 0=C2 (D4 c (nth c.G9 i).source (m9.ns c)) c.j3.length:=by
  simp only [o9];exact decide_eq_decide.2 (by omega)
 rw [h2]
theorem xz (k:Int):n7 k 0 2=(o8 k 0||o8 k 1||o8 k 2):=by
 simp only [n7,o5,j5];rw [Bool.eq_iff_iff];simp only [b5,Bool.or_eq_true,decide_eq_true_eq,beq_iff_eq];omega
theorem NP {v:Vw}(h:n7 v.kind 0 2=true):gf v=bT v:=by
 have h1:C2 0 v.on.length= !o8 v.on.length 0:=by
  simp only [j5,o9];rw [Bool.eq_iff_iff];simp only [decide_eq_true_eq,j9,beq_eq_false_iff_ne];omega
 have h2:C2 8 v.on.length= !X4 v.on.length 8:=by
  simp only [o5,o9];rw [Bool.eq_iff_iff];simp only [decide_eq_true_eq,j9,decide_eq_false_iff_not];omega
 rw [xz] at h;unfold gf bT lV;rw [h1,h2];have hx:o8 v.kind 0=true->o8 v.kind 1=false/\o8 v.kind 2=false:=fun h=>by
  have:=X2 h;simp [j5];omega
 have hy:o8 v.kind 1=true->o8 v.kind 2=false:=fun h=>by
  have:=X2 h;simp [j5];omega
 revert h hx hy;generalize o8 v.kind 0=a0;generalize o8 v.kind 1=a1;generalize o8 v.kind 2=a2;generalize I9 v.right []=a3;generalize o8 (v.on.length:Int) 0=a4;generalize X4 (v.on.length:Int) 8=a5;generalize o8 (v.items.length:Int) 0=a6;generalize C2 0 (v.B3.length:Int)=a7;generalize o8 (v.B3.length:Int) 0=a8;generalize v.distinct=a9;generalize X4 ((v.items.length:Int)+v.B3.length) 8=b1;generalize o8 (v.wh.length:Int) 0=b2;cases a0<;>cases a1<;>cases a2<;>cases a3<;>cases a4<;>cases a5<;>simp
theorem Sg {c:m9}{g:Nat}(hg:g<=m9.ns c)(h:0<=D4 c (T8 c g).left g):(Q3 (z7 c g) (T8 c g).left).2.2=lT c g:=by
 have hb:=G8 c (T8 c g).left g;unfold Q3 lT;rw [aM c hg,K2 c (by omega),U1 c (by omega)];rfl
theorem SF {c:m9}{g:Nat}(hg:g<=m9.ns c)(h:I9 (T8 c g).right []=false->0<=D4 c (T8 c g).right g):(oK (z7 c g) (T8 c g)).2.2=rT c g:=by
 have hb:=G8 c (T8 c g).right g;unfold oK rT Q3
 rcases y5 (I9 (T8 c g).right []) with hr|hr
 ·rw [hr];rfl
 ·have:=h hr
  rw [hr,if_neg (by simp),if_neg (by simp),aM c hg,K2 c (by omega),U1 c (by omega)];rfl
theorem jR (c:m9){g:Nat}(h:c.j3.length<=g)(h2:g<m9.ns c):nth c.names g=(T8 c g).name:=by
 have hv:g - c.j3.length<c.views.length:=by unfold m9.ns at h2;omega
 have:=Q0 c (i:=g - c.j3.length) (c.j3.map er.name) (c.idxs.map gD.name++c.D6.map gv.name++c.E3.map jy.name++c.G9.map iO.name++c.J3.map kI.name++c.K8.map kH.name) c.views Vw.name (by simp [m9.names]) (g:=c.j3.length) (by simp) hv;rw [show c.j3.length+(g - c.j3.length)=g by omega] at this;exact this
theorem xy {c:m9}{g:Nat}(h:c.j3.length<=g)(h2:g<m9.ns c):R2 (z7 c g) (c.names.take g) (T8 c g)=J2 c g:=by
 have hg:g<=m9.ns c:=by omega
 have he:=eB c g _ (jR c h h2) (U3 c g) (by
  have h3:¬ g<c.j3.length:=by omega
  unfold J2;simp only [h3,h2,if_false,if_true])
 rw [he];unfold R2 U3;rw [xz,aM c hg,aM c hg];simp only [Bool.not_or]
 rcases y5 (!o8 (T8 c g).kind 0&& !o8 (T8 c g).kind 1&& !o8 (T8 c g).kind 2) with k1|k1
 ·simp only [k1,if_true]
 ·simp only [k1,b7,if_false]
  rcases y5 (C2 (D4 c (T8 c g).left g) 0||(!I9 (T8 c g).right []&&C2 (D4 c (T8 c g).right g) 0)) with k2|k2
  ·simp only [k2,if_true]
  ·have k2' :=k2
   simp only [Bool.or_eq_false_iff] at k2';have f1:=z8 k2'.1;have f2:I9 (T8 c g).right []=false->0<=D4 c (T8 c g).right g:=fun h=>by
    have:=k2'.2;simp only [h,Bool.not_false,Bool.true_and] at this;exact z8 this
   have hk:n7 (T8 c g).kind 0 2=true:=by
    rw [xz];have:=congrArg (! ·) k1;simpa using this
   rw [NP hk,Sg hg f1,SF hg f2];simp only [k2,b7,if_false];rfl
theorem Ew {c:m9}{g:Nat}(h:c.j3.length<=g)(h2:g<m9.ns c)(h0:J2 c g=0):dG (z7 c g) (c.names.take g) (T8 c g)=z7 c (g+1):=by
 have hg:g<=m9.ns c:=by omega
 have hs:=cB (bH h0 h h2);have hb:=G8 c (T8 c g).left g;have h00:o8 0 0=true:=by simp [j5]
 have hn:nth (m9.sn c) g=(T8 c g).name:=by rw [<- vM c h2,jR c h h2]
 have hnt:¬ g<c.j3.length:=by omega
 unfold dG;rw [xy h h2,h0,h00,if_pos rfl,wZ]
 rcases y5 (o8 (T8 c g).kind 2) with hk|hk
 ·have e1:mb c g=((T8 c g).name,(Q3 (z7 c g) (T8 c g).left).2.1,(Q3 (z7 c g) (T8 c g).left).2.2):=by
   have hk' :o8 (nth c.views (g - c.j3.length)).kind 2=true:=hk;have f1:0<=D4 c (nth c.views (g - c.j3.length)).left g:=hs.2.1;have hb' :=G8 c (nth c.views (g - c.j3.length)).left g;unfold mb Q3;rw [hn,aM c hg,K2 c (by omega)];unfold P8 FY gh th;rw [if_neg hnt,if_neg hnt,hk',if_pos rfl,if_pos rfl,U1 c (by omega),pY c (by omega)];rfl
  rw [hk,if_pos rfl,e1]
 ·have e1:mb c g=((T8 c g).name,(W9 (T8 c g)).map FA.name,V2 (T8 c g) ((Q3 (z7 c g) (T8 c g).left).2.2++(oK (z7 c g) (T8 c g)).2.2)):=by
   have hk' :o8 (nth c.views (g - c.j3.length)).kind 2=false:=hk;rw [Sg hg hs.2.1,SF hg hs.2.2.1];unfold mb;rw [hn];unfold P8 FY gh th;rw [if_neg hnt,if_neg hnt,hk',if_neg (by simp),if_neg (by simp)];rfl
  rw [hk,if_neg (by simp),e1]
theorem Lc {v:Vw}(hk:n7 v.kind 0 2=true)(h:bT v=true)(h2:o8 v.kind 2=false):0<v.items.length+v.B3.length:=by
 unfold bT at h;rw [h2,if_neg (by simp)] at h
 rcases y5 (o8 v.kind 0) with h0|h0
 ·rw [h0,if_pos rfl] at h
  simp only [b5,j9,Bool.or_eq_false_iff] at h;have:=sM h.1.1;omega
 ·rw [h0,if_neg (by simp)] at h
  simp only [b5,j9,Bool.or_eq_false_iff] at h;have:=sM h.1.1;omega
theorem uA {c:m9}(hs:E8 c):∀ (n k:Nat),k<n->n<=m9.ns c->br c n->0<(P8 c k).length/\0<(FY c k).length/\(FY c k).length<=2000
 |0,k,h,_,_=>absurd h (by omega)
 |n+1,k,h,hn,ho=>by
  rcases p7 k n with h1|h1
  ·exact uA hs n k h1 (by omega) (fun m hm=>ho m (by omega))
  obtain rfl:k=n:=by omega
  rcases p7 k c.j3.length with h2|h2
  ·have h3:=hs.sm.m8 k h2
   have h4:=(cy (dU (ho k (by omega)) h2)).1;unfold P8 FY gh th;rw [if_pos h2,if_pos h2];simp;omega
  ·have h3:¬ k<c.j3.length:=by omega
   have hv:k - c.j3.length<c.views.length:=by unfold m9.ns at hn;omega
   have hsr:=cB (bH (ho k (by omega)) h2 (by omega));unfold T8 at hsr;unfold P8 FY gh th;rw [if_neg h3,if_neg h3]
   rcases y5 (o8 (nth c.views (k - c.j3.length)).kind 2) with hk|hk
   ·have hb:=G8 c (nth c.views (k - c.j3.length)).left k
    have f1:=hsr.2.1;rw [hk,if_pos rfl,if_pos rfl,U1 c (by omega),pY c (by omega)];exact uA hs k _ (by omega) (by omega) (fun m hm=>ho m (by omega))
   ·have h5:=Lc hsr.1 hsr.2.2.2 hk
    have h6:=hs.items _ hv;have h7:=hs.B3 _ hv;rw [hk,if_neg (by simp),if_neg (by simp),List.length_map,eC];simp only [V2,C1,List.length_map];omega
end Go.Proofs.YtkmclibmmlgogaaGreat

