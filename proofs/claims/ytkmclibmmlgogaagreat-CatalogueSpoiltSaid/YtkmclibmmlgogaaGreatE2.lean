/- Texts D33 D34 D35 D36 D37 D38 D39 (made short by a program) -/
import Derived.Test.YtkmclibmmlgogaaGreatE1
set_option linter.unusedVariables false
set_option linter.unusedSimpArgs false
open Bool renaming and_eq_true → b5, eq_false_or_eq_true → A6, false_eq_true → b7, not_eq_false' → A9, not_eq_true' → j5
open List renaming length_append → E0, take_of_length_le → q5
open Nat renaming add_assoc → H9, le_refl → n5, lt_or_ge → u9
namespace Go.Proofs.YtkmclibmmlgogaaGreat
open Go.y3 Go.y3.S
def oN (c:m8)(prev:List (List D8))(k:Nat):List D8 :=
 if k<c.j3.length then (nth c.j3 k).m7.map Y5.name
 else if o9 (nth c.views (k - c.j3.length)).kind 2 then nth prev (D5 c (nth c.views (k - c.j3.length)).left k).toNat
 else (X1 (nth c.views (k - c.j3.length))).map DP.name
def CU (c:m8):Nat->List (List D8)
 |0=>[]
 |k+1=>CU c k++[oN c (CU c k) k]
def wY (c:m8)(k:Nat):List D8:=oN c (CU c k) k
theorem EY (c:m8):∀ k,(CU c k).length=k
 |0=>rfl
 |k+1=>by simp [CU,EY c k]
theorem rj (c:m8):∀ {k j:Nat},j<k->nth (CU c k) j=wY c j
 |k+1,j,h=>by
  have hl:=EY c k
  rcases u9 j k with h1|h1
  ·rw [<- rj c h1,CU,K0 (by simp;omega),K0 (by omega),List.getElem_append_left (by omega)]
  ·obtain rfl:j=k:=by omega
   rw [CU,K0 (by simp [hl]),List.getElem_append_right (by omega)];simp [hl,wY]
def nj (c:m8)(j:Nat):Y4:=(nth (m8.sn c) j,wY c j,R3 c j)
def A0 (c:m8)(k:Nat):List Y4:=(List.range k).map (nj c)
theorem D0 (c:m8)(k:Nat):(A0 c k).length=k:=by simp [A0]
theorem M0 (c:m8){k j:Nat}(h:j<k):nth (A0 c k) j=nj c j:=by
 rw [K0 (by rw [D0];exact h)];simp [A0]
theorem yM (c:m8)(k:Nat):A0 c (k+1)=A0 c k++[nj c k]:=by simp [A0,List.range_succ]
theorem iS (c:m8){k:Nat}(h:k<=m8.ns c):(A0 c k).map (·.1)=(m8.sn c).take k:=by
 apply List.ext_getElem
 ·have:=S0 c
  simp [A0];omega
 ·intro i h1 h2
  have h3:i<k:=by simpa [A0] using h1
  have h4:i<(m8.sn c).length:=by rw [S0];omega
  simp [A0,nj,K0 h4]
theorem bC (c:m8){k:Nat}(h:k<=m8.ns c)(s:D8):C0 s ((A0 c k).map (·.1)) 0=D5 c s k:=by rw [iS c h];rfl
theorem og (c:m8){g:Nat}(h:g<c.j3.length):nth c.names g=(nth c.j3 g).name:=by
 rw [K0 (by simp [m8.names];omega),K0 h];simp [m8.names,List.getElem_append,h]
theorem ff (c:m8)(g:Nat)(s:D8)(h:nth c.names g=s)(e:Int)(he:K7 c g=(if !E3 (nth c.names g) then 3 else if (c.names.take g).any fun y=>J2 y (nth c.names g) then 4 else e)) :
  K7 c g=if !o9 (E8 (c.names.take g) s) 0 then E8 (c.names.take g) s else e:=by
 rw [he,h];unfold E8;have h3:o9 3 0=false:=by simp [j9]
 have h4:o9 4 0=false:=by simp [j9]
 have h0:o9 0 0=true:=by simp [j9]
 rcases A6 (E3 s) with c1|c1
 ·rcases A6 ((c.names.take g).any fun y=>J2 y s) with c2|c2
  ·simp only [c1,c2,Bool.not_true,b7,if_false,if_true,h4,Bool.not_false]
  ·simp only [c1,c2,Bool.not_true,b7,if_false,h0]
 ·simp only [c1,Bool.not_false,if_true,h3]
theorem S3 (c:m8)(g:Nat)(hg:g<c.names.length)(h:K7 c g=0):B4 (c.names.take g) (nth c.names g)=c.names.take (g+1):=by
 have h1:=kD h;have e1:E8 (c.names.take g) (nth c.names g)=0:=by unfold E8;rw [h1.1,h1.2];rfl
 unfold B4;rw [e1,F7 hg];simp [j9]
theorem wm (c:m8){g:Nat}(h:g<=m8.ns c)(s:D8)(hs:((c.names.take g).any fun y=>J2 y s)=false):(((A0 c g).map (·.1)).any fun y=>J2 y s)=false:=by
 rw [iS c h];have h1:c.names=m8.sn c++(c.idxs.map iC.name++c.E7.map iq.name++c.F1.map kj.name++c.I9.map jx.name++c.K9.map lS.name++c.M7.map lQ.name):=by simp [m8.names,m8.sn]
 have h2:c.names.take g=(m8.sn c).take g:=by
  rw [h1,List.take_append_of_le_length (by rw [S0];exact h)]
 rw [<- h2];exact hs
theorem EI:∀ (l:List D8) (i:Nat),(∀ x,x ∈ l->x≠[])->C0 [] l i= -1
 |[],_,_=>rfl
 |x::l,i,h=>by
  have h1:J2 x []=false:=by simp [B8,h x (List.mem_cons_self)]
  simp only [C0,h1,b7,if_false];exact EI l (i+1) fun y hy=>h y (List.mem_cons_of_mem _ hy)
theorem TA {s:D8}(h:E3 s=true):s≠[]:=by
 rintro rfl;simp [E3] at h
theorem Up (c:m8){g:Nat}(h:g<=m8.ns c):(m8.sn c).take g=c.names.take g:=by
 have h1:c.names=m8.sn c++(c.idxs.map iC.name++c.E7.map iq.name++c.F1.map kj.name++c.I9.map jx.name++c.K9.map lS.name++c.M7.map lQ.name):=by simp [m8.names,m8.sn]
 rw [h1,List.take_append_of_le_length (by rw [S0];exact h)]
theorem OG {c:m8}{g:Nat}(hg:g<=m8.ns c)(hok:bW c g):D5 c [] g= -1:=by
 unfold D5;apply EI;intro x hx;rw [Up c hg] at hx;obtain ⟨j,hj,rfl⟩:=List.getElem_of_mem hx;have h1:j<g:=by simp at hj;omega
 have h2:=kD (hok j h1);have h3:j<c.names.length:=by simp at hj;omega
 rw [K0 h3] at h2;have h4:=h2.1;simp only [A9] at h4;simpa using TA h4
theorem FQ (c:m8){g:Nat}(h:g<=c.j3.length)(s:D8):dZ c s g=D5 c s g:=by
 unfold dZ;rw [Nat.min_eq_left h]
theorem qH (c:m8){k:Nat}(h:k<c.j3.length):R3 c k=(nth c.j3 k).m7.map Y5.type:=by
 unfold R3 iP;rw [if_pos h]
theorem TE {α β:Type} [Inhabited α] [Inhabited β] (f:α->β){l:List α}{i:Nat}(h:i<l.length):nth (l.map f) i=f (nth l i):=by
 rw [K0 (by simpa using h),K0 h];simp
theorem OB (a b:Int):o9 a b=o9 b a:=by
 simp only [j9];rw [Bool.eq_iff_iff];simp only [beq_iff_eq];exact eq_comm
theorem FA (t:eZ)(x:Y5):(!jk t x)=((!n7 x.ek 0 1||(o9 x.C5.length 0&&(!o9 x.ek 0|| !o9 x.ir 0)))||(!n7 x.ir 0 1048576||(!o9 t.Z4 0&&C9 t.Z4 x.ir))):=by
 have h1:o9 x.C5.length 0= !C9 0 x.C5.length:=by
  simp only [j9,p5];rw [Bool.eq_iff_iff];simp only [beq_iff_eq,j5,decide_eq_false_iff_not];omega
 have h2:n7 x.ek 0 1=(o9 x.ek 0||o9 x.ek 1):=by
  simp only [n7,p4,j9];rw [Bool.eq_iff_iff];simp only [b5,Bool.or_eq_true,decide_eq_true_eq,beq_iff_eq];omega
 have h3:C9 t.Z4 x.ir= !W8 x.ir t.Z4:=by
  simp only [p4,p5];rw [Bool.eq_iff_iff];simp only [decide_eq_true_eq,j5,decide_eq_false_iff_not];omega
 unfold jk;rw [h1,h2,h3];generalize o9 x.ek 0=a1;generalize o9 x.ek 1=a2;generalize C9 0 (x.C5.length:Int)=a3;generalize n7 x.ir 0 1048576=a4;generalize o9 x.ir 0=a5;generalize o9 t.Z4 0=a6;generalize W8 x.ir t.Z4=a7;revert a1 a2 a3 a4 a5 a6 a7
 decide
theorem aL6:∀ (A B C ow wj Z wd ret E:Bool),(if A=true then (3:Int) else if B=true then 4 else if C=true then 5 else if (ow||((wj||Z)||(wd||ret)))=true then 1 else if E=true then 1 else 0)=(if A=true then (3:Int) else if B=true then 4 else if C=true then 5 else if (ow||wj||Z)=true then 1 else if (wd||ret||E)=true then 1 else 0):=by decide
theorem aL7:∀ (A B C sp ow wj Z wd ret E F:Bool),(if A=true then (3:Int) else if B=true then 4 else if C=true then 5 else if (sp||ow||((wj||Z)||(wd||ret)))=true then 1 else if E=true then 1 else if F=true then 1 else 0)=(if A=true then (3:Int) else if B=true then 4 else if C=true then 5 else if (sp||ow||wj||Z)=true then 1 else if (wd||ret||E)=true then 1 else if F=true then 1 else 0):=by decide
set_option maxHeartbeats 4000000 in
theorem SN {c:m8}{g i:Nat}(hg:g<c.j3.length)(hok:bW c g):dW c (A0 c g) (nth c.j3 g) i=Z2 c g i:=by
 have cz:g<=m8.ns c:=by unfold m8.ns;omega
 unfold dW Z2;rw [bC c cz,FQ c (by omega)];generalize hx:nth (nth c.j3 g).m7 i=x;generalize ht:nth c.j3 g=t;have hTO:=I6 c x.refs g;have hnil:J2 x.refs []=true->D5 c x.refs g= -1:=fun h=>by rw [ap8 h];exact OG cz hok
 have eg:0<=D5 c x.refs g->nth (nth (A0 c g) (D5 c x.refs g).toNat).2.2 0=(nth (nth c.j3 (D5 c x.refs g).toNat).m7 0).type:=fun h=>by
  have h1:(D5 c x.refs g).toNat<g:=by omega
  rw [M0 c h1];show nth (R3 c _) 0=_
  rw [qH c (by omega),TE _ (cU (ez (hok _ h1) (by omega))).1]
 generalize D5 c x.refs g=TO at *
 rcases A6 (J2 x.refs []) with hr|hr
 ·have h1:=hnil hr
  subst h1;have h2:W8 0 (-1)=false:=by simp [p4]
  simp only [hr,h2,Bool.not_true,Bool.false_and,Bool.and_false,Bool.or_false,b7,if_false];rw [FA];simp only [Bool.false_or,Bool.not_or];exact aL6 _ _ _ _ _ _ _ _ _
 ·rcases A6 (W8 0 TO) with h0|h0
  ·rw [eg (qV h0)]
   have h2:C9 TO 0=false:=by have:=qV h0;simp [p5];omega
   simp only [hr,h0,h2,Bool.not_false,Bool.true_and,Bool.and_true,Bool.and_false,b7,if_false];rw [FA,OB x.type (nth (nth c.j3 TO.toNat).m7 0).type];simp only [Bool.not_or,hasB];exact aL7 _ _ _ _ _ _ _ _ _ _ _
  ·have h2:C9 TO 0=true:=by have:=AR h0;simp [p5];omega
   simp only [hr,h0,h2,Bool.not_false,Bool.and_self,if_true]
theorem El {c:m8}{g:Nat}(hg:g<c.j3.length)(hok:bW c g):∀ k i,uf c (A0 c g) (nth c.j3 g) k i=cn c g k i
 |0,_=>rfl
 |k+1,i=>by
  rw [uf,cn,SN hg hok,El hg hok k (i+1)]
theorem ND (t:eZ):eG t=(!n7 t.m7.length 1 8|| !n7 t.erase 0 1|| !n7 t.Z4 0 1048576):=by
 have h2:n7 t.erase 0 1=(o9 t.erase 0||o9 t.erase 1):=by
  simp only [n7,p4,j9];rw [Bool.eq_iff_iff];simp only [b5,Bool.or_eq_true,decide_eq_true_eq,beq_iff_eq];omega
 unfold eG;rw [h2,Bool.not_or]
theorem DD {c:m8}{g:Nat}(hg:g<c.j3.length)(hok:bW c g):gY c (A0 c g) (c.names.take g) (nth c.j3 g)=K7 c g:=by
 have he:=ff c g (nth c.j3 g).name (og c hg) (dK c g) (by unfold K7;rw [if_pos hg]);rw [he];unfold gY dK;rw [ND,El hg hok]
theorem Kx {c:m8}{g:Nat}(hg:g<c.j3.length)(hok:bW c g)(h0:K7 c g=0):rW c (A0 c g) (c.names.take g) (nth c.j3 g)=A0 c (g+1):=by
 unfold rW;rw [DD hg hok,h0,yM];have h1:nj c g=((nth c.j3 g).name,(nth c.j3 g).m7.map Y5.name,(nth c.j3 g).m7.map Y5.type):=by
  unfold nj;rw [qH c hg,<- xL c (by unfold m8.ns;omega),og c hg];unfold wY oN;rw [if_pos hg]
 rw [h1];simp [j9]
theorem Du (c:m8)(s:D8)(col:Int):cI (A0 c (m8.ns c)) s col=jT c s col:=by
 unfold cI jT;rw [bC c (n5 _)];have hb:=I6 c s (m8.ns c)
 rcases A6 (C9 (D5 c s (m8.ns c)) 0) with h|h
 ·simp only [h,if_true]
 ·have h1:=y8 h
  rw [M0 c (by omega)];rfl
theorem EK (c:m8)(s:D8):(!dx c (A0 c (m8.ns c)) s)=C9 (dZ c s c.j3.length) 0:=by
 unfold dx;rw [bC c (n5 _),FQ c (n5 _)];unfold D5;have h0:(m8.sn c).take (m8.ns c)=m8.sn c:=q5 (by rw [S0];exact n5 _);rw [h0];have h1:∀ (l:List D8) (k i:Nat),(C0 s (l.take k) i= -1/\(C0 s l i= -1\/((i:Int)+k<=C0 s l i/\k<=l.length)))\/(C0 s (l.take k) i=C0 s l i/\(i:Int)<=C0 s l i/\C0 s l i<i+k):=by
  intro l
  induction l with
  |nil=>intro k i;simp [C0]
  |cons x l ih =>
   intro k i;cases k with
   |zero =>
    left
    rcases cA s (x::l) i with h|h
    ·exact ⟨rfl,Or.inl h⟩
    ·exact ⟨rfl,Or.inr ⟨by omega,by omega⟩⟩
   |succ k =>
    simp only [List.take_succ_cons,C0]
    rcases A6 (J2 x s) with hs|hs
    ·right
     simp only [hs,if_true];exact ⟨trivial,by omega,by omega⟩
    ·simp only [hs,b7,if_false]
     rcases ih k (i+1) with h|h
     ·left
      refine ⟨h.1,?_⟩
      rcases h.2 with h|h
      ·exact Or.inl h
      ·exact Or.inr ⟨by omega,by simp;omega⟩
     ·right
      omega
 rcases h1 (m8.sn c) c.j3.length 0 with h|h
 ·have e1:C9 (C0 s ((m8.sn c).take c.j3.length) 0) 0=true:=by simp only [p5,decide_eq_true_eq];omega
  have e2:n7 (C0 s (m8.sn c) 0) 0 (c.j3.length - 1)=false:=by simp only [n7,p4,Bool.and_eq_false_iff,decide_eq_false_iff_not];omega
  rw [e1,e2];rfl
 ·have e1:C9 (C0 s ((m8.sn c).take c.j3.length) 0) 0=false:=by simp only [p5,decide_eq_false_iff_not];omega
  have e2:n7 (C0 s (m8.sn c) 0) 0 (c.j3.length - 1)=true:=by simp only [n7,p4,b5,decide_eq_true_eq];omega
  rw [e1,e2];rfl
theorem Oe (c:m8):∀ seen l,NN c (A0 c (m8.ns c)) seen l=UP c seen l
 |_,[]=>rfl
 |seen,t::r=>by
  rw [NN,UP,EK,Oe c (seen++[t]) r]
theorem R7 (c:m8){g i:Nat}{α:Type} [Inhabited α] (l1 l3:List D8)(l2:List α)(f:α->D8)(h:c.names=l1++l2.map f++l3)(hl:l1.length=g)(hi:i<l2.length):nth c.names (g+i)=f (nth l2 i):=by
 subst hl;rw [h,List.append_assoc,K0 (by simp;omega),List.getElem_append_right (by omega)];simp only [Nat.add_sub_cancel_left];rw [List.getElem_append_left (by simpa using hi),K0 hi];simp
theorem jC {c:m8}{g:Nat}(h:m8.ns c<=g):K7 c g=(if !E3 (nth c.names g) then 3 else if (c.names.take g).any fun y=>J2 y (nth c.names g) then 4 else U3 c (g - m8.ns c)):=by
 have h1:¬ g<c.j3.length:=by unfold m8.ns at h;omega
 have h2:¬ g<m8.ns c:=by omega
 unfold K7;simp only [h1,h2,if_false]
theorem JN {c:m8}{g i:Nat}(hg:g=m8.ns c+i)(hi:i<c.idxs.length):qT (A0 c (m8.ns c)) (c.names.take g) (nth c.idxs i)=K7 c g:=by
 have hn:nth c.names g=(nth c.idxs i).name:=by
  rw [hg];exact R7 c (m8.sn c) (c.E7.map iq.name++c.F1.map kj.name++c.I9.map jx.name++c.K9.map lS.name++c.M7.map lQ.name) c.idxs iC.name (by simp [m8.names,m8.sn]) (S0 c) hi
 have he:=ff c g _ hn (U3 c (g - m8.ns c)) (jC (by omega));rw [he];have e1:U3 c (g - m8.ns c)=MS c (nth c.idxs i):=by
  rw [hg,Nat.add_sub_cancel_left];unfold U3;rw [if_pos hi]
 rw [e1];unfold qT MS;rw [Du]
 rcases A6 (o9 (jT c (nth c.idxs i).source (nth c.idxs i).col).2 0) with h|h
 ·have h2:=X2 h
  simp only [h,Bool.not_true,b7,if_false,Bool.true_and];rw [h2]
 ·simp only [h,Bool.not_false,if_true,Bool.false_and,b7,if_false]
theorem Jz {c:m8}{g i:Nat}(hg:g=m8.ns c+(c.idxs.length+c.E7.length)+i)(hi:i<c.F1.length):qD (A0 c (m8.ns c)) (c.names.take g) (nth c.F1 i)=K7 c g:=by
 have hn:nth c.names g=(nth c.F1 i).name:=by
  rw [hg];exact R7 c (m8.sn c++c.idxs.map iC.name++c.E7.map iq.name) (c.I9.map jx.name++c.K9.map lS.name++c.M7.map lQ.name) c.F1 kj.name (by simp [m8.names,m8.sn]) (by simp [S0,H9]) hi
 have he:=ff c g _ hn (U3 c (g - m8.ns c)) (jC (by omega));rw [he];have e1:U3 c (g - m8.ns c)=Mx c (nth c.F1 i):=by
  have hm:g - m8.ns c=c.idxs.length+c.E7.length+i:=by omega
  rw [hm];unfold U3;rw [if_neg (by omega),if_neg (by omega),if_pos (by omega)]
  congr 2
  omega
 rw [e1];unfold qD Mx;rw [Du]
 rcases A6 (o9 (jT c (nth c.F1 i).source (nth c.F1 i).col).2 0) with h|h
 ·have h2:=X2 h
  simp only [h,Bool.not_true,b7,if_false,Bool.true_and];rw [h2]
 ·simp only [h,Bool.not_false,if_true,Bool.false_and,b7,if_false]
theorem Kw {c:m8}{g i:Nat}(hg:g=m8.ns c+(c.idxs.length+c.E7.length+c.F1.length+c.I9.length)+i)(hi:i<c.K9.length):vA c (A0 c (m8.ns c)) (c.names.take g) (nth c.K9 i)=K7 c g:=by
 have hn:nth c.names g=(nth c.K9 i).name:=by
  rw [hg];exact R7 c (m8.sn c++c.idxs.map iC.name++c.E7.map iq.name++c.F1.map kj.name++c.I9.map jx.name) (c.M7.map lQ.name) c.K9 lS.name (by simp [m8.names,m8.sn]) (by simp [S0,H9]) hi
 have he:=ff c g _ hn (U3 c (g - m8.ns c)) (jC (by omega));rw [he];have e1:U3 c (g - m8.ns c)=NC c (nth c.K9 i):=by
  have hm:g - m8.ns c=(c.idxs.length+c.E7.length+c.F1.length+c.I9.length)+i:=by omega
  rw [hm];unfold U3;rw [if_neg (by omega),if_neg (by omega),if_neg (by omega),if_neg (by omega),if_pos (by omega)]
  congr 2
  omega
 rw [e1];unfold vA NC;rw [EK]
theorem Of {c:m8}{g i:Nat}(hg:g=m8.ns c+(c.idxs.length+c.E7.length+c.F1.length+c.I9.length+c.K9.length)+i)(hi:i<c.M7.length):Jv c (A0 c (m8.ns c)) (c.names.take g) (nth c.M7 i)=K7 c g:=by
 have hn:nth c.names g=(nth c.M7 i).name:=by
  rw [hg];exact R7 c (m8.sn c++c.idxs.map iC.name++c.E7.map iq.name++c.F1.map kj.name++c.I9.map jx.name++c.K9.map lS.name) ([]) c.M7 lQ.name (by simp [m8.names,m8.sn]) (by simp [S0,H9]) hi
 have he:=ff c g _ hn (U3 c (g - m8.ns c)) (jC (by omega));rw [he];have e1:U3 c (g - m8.ns c)=DZ c (nth c.M7 i):=by
  have hm:g - m8.ns c=(c.idxs.length+c.E7.length+c.F1.length+c.I9.length+c.K9.length)+i:=by omega
  rw [hm];unfold U3;rw [if_neg (by omega),if_neg (by omega),if_neg (by omega),if_neg (by omega),if_neg (by omega)]
  congr 2
  omega
 rw [e1];unfold Jv DZ;rw [Oe]
theorem Kq {c:m8}{g i:Nat}(hg:g=m8.ns c+(c.idxs.length)+i)(hi:i<c.E7.length):jR (A0 c (m8.ns c)) (c.names.take g) (nth c.E7 i)=K7 c g:=by
 have hn:nth c.names g=(nth c.E7 i).name:=by
  rw [hg];exact R7 c (m8.sn c++c.idxs.map iC.name) (c.F1.map kj.name++c.I9.map jx.name++c.K9.map lS.name++c.M7.map lQ.name) c.E7 iq.name (by simp [m8.names,m8.sn]) (by simp [S0,H9]) hi
 have he:=ff c g _ hn (U3 c (g - m8.ns c)) (jC (by omega));rw [he];have e1:U3 c (g - m8.ns c)=Aj c (nth c.E7 i):=by
  have hm:g - m8.ns c=(c.idxs.length)+i:=by omega
  rw [hm];unfold U3;rw [if_neg (by omega),if_pos (by omega)]
  congr 2
  omega
 rw [e1];unfold jR Aj Dn;rw [Du];generalize nth c.E7 i=x;have h2:n7 x.kind 0 2=(o9 x.kind 0||o9 x.kind 1||o9 x.kind 2):=by
  simp only [n7,p4,j9];rw [Bool.eq_iff_iff];simp only [b5,Bool.or_eq_true,decide_eq_true_eq,beq_iff_eq];omega
 rw [h2];simp only [Bool.not_or]
 rcases A6 (!o9 x.kind 0&& !o9 x.kind 1&& !o9 x.kind 2) with h|h
 ·simp only [h,if_true,Bool.true_or]
 ·simp only [h,b7,if_false,Bool.false_or]
theorem Kg {c:m8}{g i:Nat}(hg:g=m8.ns c+(c.idxs.length+c.E7.length+c.F1.length)+i)(hi:i<c.I9.length):rJ c (A0 c (m8.ns c)) (c.names.take g) (nth c.I9 i)=K7 c g:=by
 have hn:nth c.names g=(nth c.I9 i).name:=by
  rw [hg];exact R7 c (m8.sn c++c.idxs.map iC.name++c.E7.map iq.name++c.F1.map kj.name) (c.K9.map lS.name++c.M7.map lQ.name) c.I9 jx.name (by simp [m8.names,m8.sn]) (by simp [S0,H9]) hi
 have he:=ff c g _ hn (U3 c (g - m8.ns c)) (jC (by omega));rw [he];have e1:U3 c (g - m8.ns c)=Fw c (nth c.I9 i):=by
  have hm:g - m8.ns c=(c.idxs.length+c.E7.length+c.F1.length)+i:=by omega
  rw [hm];unfold U3;rw [if_neg (by omega),if_neg (by omega),if_neg (by omega),if_pos (by omega)]
  congr 2
  omega
 rw [e1];unfold rJ Fw TZ;rw [bC c (n5 _)];have h2:C9 (D5 c (nth c.I9 i).source (m8.ns c) - c.j3.length) 0=C9 (D5 c (nth c.I9 i).source (m8.ns c)) c.j3.length:=by
  simp only [p5];exact decide_eq_decide.2 (by omega)
 rw [h2]
theorem zd (k:Int):n7 k 0 2=(o9 k 0||o9 k 1||o9 k 2):=by
 simp only [n7,p4,j9];rw [Bool.eq_iff_iff];simp only [b5,Bool.or_eq_true,decide_eq_true_eq,beq_iff_eq];omega
theorem QL {v:Vw}(h:n7 v.kind 0 2=true):gX v=cH v:=by
 have h1:C9 0 v.on.length= !o9 v.on.length 0:=by
  simp only [j9,p5];rw [Bool.eq_iff_iff];simp only [decide_eq_true_eq,j5,beq_eq_false_iff_ne];omega
 have h2:C9 8 v.on.length= !W8 v.on.length 8:=by
  simp only [p4,p5];rw [Bool.eq_iff_iff];simp only [decide_eq_true_eq,j5,decide_eq_false_iff_not];omega
 rw [zd] at h;unfold gX cH mZ;rw [h1,h2];have hx:o9 v.kind 0=true->o9 v.kind 1=false/\o9 v.kind 2=false:=fun h=>by
  have:=X2 h;simp [j9];omega
 have hy:o9 v.kind 1=true->o9 v.kind 2=false:=fun h=>by
  have:=X2 h;simp [j9];omega
 revert h hx hy;generalize o9 v.kind 0=a0;generalize o9 v.kind 1=a1;generalize o9 v.kind 2=a2;generalize J2 v.right []=a3;generalize o9 (v.on.length:Int) 0=a4;generalize W8 (v.on.length:Int) 8=a5;generalize o9 (v.items.length:Int) 0=a6;generalize C9 0 (v.C1.length:Int)=a7;generalize o9 (v.C1.length:Int) 0=a8;generalize v.distinct=a9;generalize W8 ((v.items.length:Int)+v.C1.length) 8=b1;generalize o9 (v.wh.length:Int) 0=b2;cases a0<;>cases a1<;>cases a2<;>cases a3<;>cases a4<;>cases a5<;>simp
theorem Vi {c:m8}{g:Nat}(hg:g<=m8.ns c)(h:0<=D5 c (U7 c g).left g):(S1 (A0 c g) (U7 c g).left).2.2=lT c g:=by
 have hb:=I6 c (U7 c g).left g;unfold S1 lT;rw [bC c hg,M0 c (by omega),W3 c (by omega)];rfl
theorem VO {c:m8}{g:Nat}(hg:g<=m8.ns c)(h:J2 (U7 c g).right []=false->0<=D5 c (U7 c g).right g):(qn (A0 c g) (U7 c g)).2.2=rT c g:=by
 have hb:=I6 c (U7 c g).right g;unfold qn rT S1
 rcases A6 (J2 (U7 c g).right []) with hr|hr
 ·rw [hr];rfl
 ·have:=h hr
  rw [hr,if_neg (by simp),if_neg (by simp),bC c hg,M0 c (by omega),W3 c (by omega)];rfl
theorem kN (c:m8){g:Nat}(h:c.j3.length<=g)(h2:g<m8.ns c):nth c.names g=(U7 c g).name:=by
 have hv:g - c.j3.length<c.views.length:=by unfold m8.ns at h2;omega
 have:=R7 c (i:=g - c.j3.length) (c.j3.map eZ.name) (c.idxs.map iC.name++c.E7.map iq.name++c.F1.map kj.name++c.I9.map jx.name++c.K9.map lS.name++c.M7.map lQ.name) c.views Vw.name (by simp [m8.names]) (g:=c.j3.length) (by simp) hv;rw [show c.j3.length+(g - c.j3.length)=g by omega] at this;exact this
theorem yZ {c:m8}{g:Nat}(h:c.j3.length<=g)(h2:g<m8.ns c):T4 (A0 c g) (c.names.take g) (U7 c g)=K7 c g:=by
 have hg:g<=m8.ns c:=by omega
 have he:=ff c g _ (kN c h h2) (V3 c g) (by
  have h3:¬ g<c.j3.length:=by omega
  unfold K7;simp only [h3,h2,if_false,if_true])
 rw [he];unfold T4 V3;rw [zd,bC c hg,bC c hg];simp only [Bool.not_or]
 rcases A6 (!o9 (U7 c g).kind 0&& !o9 (U7 c g).kind 1&& !o9 (U7 c g).kind 2) with k1|k1
 ·simp only [k1,if_true]
 ·simp only [k1,b7,if_false]
  rcases A6 (C9 (D5 c (U7 c g).left g) 0||(!J2 (U7 c g).right []&&C9 (D5 c (U7 c g).right g) 0)) with k2|k2
  ·simp only [k2,if_true]
  ·have k2' :=k2
   simp only [Bool.or_eq_false_iff] at k2';have f1:=y8 k2'.1;have f2:J2 (U7 c g).right []=false->0<=D5 c (U7 c g).right g:=fun h=>by
    have:=k2'.2;simp only [h,Bool.not_false,Bool.true_and] at this;exact y8 this
   have hk:n7 (U7 c g).kind 0 2=true:=by
    rw [zd];have:=congrArg (! ·) k1;simpa using this
   rw [QL hk,Vi hg f1,VO hg f2];simp only [k2,b7,if_false];rfl
theorem Gj {c:m8}{g:Nat}(h:c.j3.length<=g)(h2:g<m8.ns c)(h0:K7 c g=0):er (A0 c g) (c.names.take g) (U7 c g)=A0 c (g+1):=by
 have hg:g<=m8.ns c:=by omega
 have hs:=cW (cw h0 h h2);have hb:=I6 c (U7 c g).left g;have h00:o9 0 0=true:=by simp [j9]
 have hn:nth (m8.sn c) g=(U7 c g).name:=by rw [<- xL c h2,kN c h h2]
 have hnt:¬ g<c.j3.length:=by omega
 unfold er;rw [yZ h h2,h0,h00,if_pos rfl,yM]
 rcases A6 (o9 (U7 c g).kind 2) with hk|hk
 ·have e1:nj c g=((U7 c g).name,(S1 (A0 c g) (U7 c g).left).2.1,(S1 (A0 c g) (U7 c g).left).2.2):=by
   have hk' :o9 (nth c.views (g - c.j3.length)).kind 2=true:=hk;have f1:0<=D5 c (nth c.views (g - c.j3.length)).left g:=hs.2.1;have hb' :=I6 c (nth c.views (g - c.j3.length)).left g;unfold nj S1;rw [hn,bC c hg,M0 c (by omega)];unfold R3 wY iP oN;rw [if_neg hnt,if_neg hnt,hk',if_pos rfl,if_pos rfl,W3 c (by omega),rj c (by omega)];rfl
  rw [hk,if_pos rfl,e1]
 ·have e1:nj c g=((U7 c g).name,(X1 (U7 c g)).map DP.name,X8 (U7 c g) ((S1 (A0 c g) (U7 c g).left).2.2++(qn (A0 c g) (U7 c g)).2.2)):=by
   have hk' :o9 (nth c.views (g - c.j3.length)).kind 2=false:=hk;rw [Vi hg hs.2.1,VO hg hs.2.2.1];unfold nj;rw [hn];unfold R3 wY iP oN;rw [if_neg hnt,if_neg hnt,hk',if_neg (by simp),if_neg (by simp)];rfl
  rw [hk,if_neg (by simp),e1]
theorem Nv {v:Vw}(hk:n7 v.kind 0 2=true)(h:cH v=true)(h2:o9 v.kind 2=false):0<v.items.length+v.C1.length:=by
 unfold cH at h;rw [h2,if_neg (by simp)] at h
 rcases A6 (o9 v.kind 0) with h0|h0
 ·rw [h0,if_pos rfl] at h
  simp only [b5,j5,Bool.or_eq_false_iff] at h;have:=mz h.1.1;omega
 ·rw [h0,if_neg (by simp)] at h
  simp only [b5,j5,Bool.or_eq_false_iff] at h;have:=mz h.1.1;omega
theorem rS {c:m8}(hs:B6 c):∀ (n k:Nat),k<n->n<=m8.ns c->bW c n->0<(R3 c k).length/\0<(wY c k).length/\(wY c k).length<=2000
 |0,k,h,_,_=>absurd h (by omega)
 |n+1,k,h,hn,ho=>by
  rcases u9 k n with h1|h1
  ·exact rS hs n k h1 (by omega) (fun m hm=>ho m (by omega))
  obtain rfl:k=n:=by omega
  rcases u9 k c.j3.length with h2|h2
  ·have h3:=hs.sm.m7 k h2
   have h4:=(cU (ez (ho k (by omega)) h2)).1;unfold R3 wY iP oN;rw [if_pos h2,if_pos h2];simp;omega
  ·have h3:¬ k<c.j3.length:=by omega
   have hv:k - c.j3.length<c.views.length:=by unfold m8.ns at hn;omega
   have hsr:=cW (cw (ho k (by omega)) h2 (by omega));unfold U7 at hsr;unfold R3 wY iP oN;rw [if_neg h3,if_neg h3]
   rcases A6 (o9 (nth c.views (k - c.j3.length)).kind 2) with hk|hk
   ·have hb:=I6 c (nth c.views (k - c.j3.length)).left k
    have f1:=hsr.2.1;rw [hk,if_pos rfl,if_pos rfl,W3 c (by omega),rj c (by omega)];exact rS hs k _ (by omega) (by omega) (fun m hm=>ho m (by omega))
   ·have h5:=Nv hsr.1 hsr.2.2.2 hk
    have h6:=hs.items _ hv;have h7:=hs.C1 _ hv;rw [hk,if_neg (by simp),if_neg (by simp),List.length_map,fh];simp only [X8,E0,List.length_map];omega
end Go.Proofs.YtkmclibmmlgogaaGreat

