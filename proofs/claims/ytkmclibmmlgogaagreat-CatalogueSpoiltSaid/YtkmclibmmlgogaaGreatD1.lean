/- Texts D4 D5 (made short by a program) -/
import Derived.Test.YtkmclibmmlgogaaGreatD0
set_option linter.unusedVariables false
set_option linter.unusedSimpArgs false
open Bool renaming and_eq_true → b5, false_eq_true → b7
open List renaming drop_of_length_le → k9
namespace Go.Proofs.YtkmclibmmlgogaaGreat
open Go.y3 Go.y3.S
attribute [local irreducible] Rx Ry Rn Ex Pf
def m8.sn (c:m8):List D8:=c.j3.map eZ.name++c.views.map Vw.name
def m8.ns (c:m8):Nat:=c.j3.length+c.views.length
def C0 (name:D8):List D8->Nat->Int
 |[],_=> -1
 |x::r,i=>if J2 x name then i else C0 name r (i+1)
def D5 (c:m8)(name:D8)(n:Nat):Int:=C0 name ((m8.sn c).take n) 0
theorem S0 (c:m8):(m8.sn c).length=m8.ns c:=by simp [m8.sn,m8.ns]
theorem xL (c:m8){i:Nat}(h:i<m8.ns c):nth c.names i=nth (m8.sn c) i:=by
 have h1:c.names=m8.sn c++(c.idxs.map iC.name++c.E7.map iq.name++c.F1.map kj.name++c.I9.map jx.name++c.K9.map lS.name++c.M7.map lQ.name):=by simp [m8.names,m8.sn]
 have h2:i<(m8.sn c).length:=by rw [S0];exact h
 rw [h1,K0 h2,K0 (by simp;omega),List.getElem_append_left h2]
theorem Z3 (c:m8):m8.ns c<=c.names.length:=by simp [m8.names,m8.ns]
theorem vu (c:m8)(name:D8)(n:Nat)(hf:c.fI)(hn:n<=100000):Pf A 84 [cat c,.d (.str name),.d (num n)] (.d (num (D5 c name n))):=by
 have hl:=Z3 c;have hc:m8.ns c<=2000:=by obtain ⟨f0,f1,_⟩:=hf;unfold m8.ns;omega
 have hs:=S0 c;have uk :c.j3.length+c.views.length<=2000:=hc;refine Pf.run [cat c,.d (.str name),.d (num n),.any,.any,.any,.any] rfl rfl rfl rfl ?_
 repeat' (first|refine cl (an2 c hf) ?_|refine gx ?_|fail)
 refine Ex.J0 (fun k T H=>∃ (i:Nat) (v w:b6),T=[v,.d (.str name),.d (num n),.ptr 0 0,w,.d (z6 encS c.names),.d (num i)]/\H=[.cells (c.enc.map .d)]/\i+k=m8.ns c/\i<=n/\D5 c name n=C0 name (((m8.sn c).take n).drop i) i) (by rintro _ _ _ ⟨_,_,_,_,rfl,_⟩;rfl) ?_ (k:=m8.ns c) ⟨0,_,_,rfl,rfl,by simp,by omega,by simp [D5]⟩;rintro k _ _ ⟨i,v,w,rfl,rfl,hk,hin,hi⟩;refine Ex.nT ?_;refine Ex.seq ?_;refine tB (C9 i n&&C9 i (m8.ns c)) ?_ (fun h1=> ?_) (fun h1=> ?_)
 ·repeat' (first|refine gx ?_|refine fk (h1:=fun hw=> ?_) (h2:=fun hw=> ?_)|refine L7 (h1:=fun hw=> ?_) (h2:=fun hw=> ?_)|refine ⟨rfl,rfl,_,rfl,?_⟩|refine ⟨rfl,rfl⟩|fail)
  all_goals first|(simp [*,b8,m8.ns];done)|(simp_all [b8,m8.ns];done)|(simp_all [b8,m8.ns,p5,p4,j9,B8];done)|(simp_all [b8,m8.ns,p5,p4,j9,B8]<;>omega)
 ·simp only [b5] at h1
  have h2:=y9 h1.1;have h3:=y9 h1.2;have h4:((m8.sn c).take n).drop i=nth (m8.sn c) i::((m8.sn c).take n).drop (i+1):=by
   rw [A2 (by simp;omega),K0 (by simp;omega),K0 (by omega)];simp
  rw [h4,<- xL c (by omega)] at hi
  repeat' (first|refine gx ?_|refine Ex.H7 ?_|refine Ex.H8 ?_|refine Ex.cond rfl (fun ht=> ?_) (fun ht=> ?_)|refine Ex.test (Rn.text ?_)|refine Ex.test (Rn.draw ?_)|refine ⟨_,rfl,fun ht=> ?_,fun ht=> ?_⟩|refine ⟨_,rfl,?_⟩|fail)
  ·simp [hi,C0,ht,b8,num]
  ·exact ⟨k - 1,by omega,i+1,_,_,rfl,rfl,by omega,by omega,by simp [hi,C0,ht]⟩
 ·repeat' (first|refine gx ?_|refine Ex.H7 ?_|refine Ex.H8 ?_|refine Ex.cond rfl (fun ht=> ?_) (fun ht=> ?_)|refine Ex.test (Rn.text ?_)|refine Ex.test (Rn.draw ?_)|refine ⟨_,rfl,fun ht=> ?_,fun ht=> ?_⟩|refine ⟨_,rfl,?_⟩|fail)
  have h2:((m8.sn c).take n).drop i=[]:=by
   apply k9;simp [p5] at h1;simp;omega
  rw [h2] at hi;simp [hi,C0,b8,num]
def dZ (c:m8)(name:D8)(n:Nat):Int:=D5 c name (min n c.j3.length)
theorem PZ (c:m8)(name:D8)(n:Nat)(hf:c.fI)(hn:n<=100000):Pf A 106 [cat c,.d (.str name),.d (num n)] (.d (num (dZ c name n))):=by
 refine Pf.run [cat c,.d (.str name),.d (num n),.any,.any] rfl rfl rfl rfl ?_;refine gr ?_;have e:(if (c.j3.length:Int)<(n:Int) then (c.j3.length:Int) else (n:Int))=((min n c.j3.length:Nat):Int):=by split<;>omega
 refine cl (vu c name (min n c.j3.length) hf (by omega)) ?_ (ha:=by rw [num,<- e];rfl);refine gr ?_;exact ⟨_,rfl,rfl⟩
def T1 (t:eZ):Int->List Int->Bool
 |_,[]=>true
 |p,o::r=>C9 p o&&C9 o t.m7.length&& !(J2 (nth t.m7 o.toNat).space []&&J2 (nth t.m7 o.toNat).refs [])&&T1 t o r
def iT (t:eZ):b6:= .agg (t.enc.map .d)
theorem ak3 (t:eZ)(xs:List Int)(hx:xs.length<=1000)(hc:t.m7.length<=1000):Pf A 143 [iT t,.d (ints xs)] (.d (.bool (T1 t (-1) xs))):=by
 refine Pf.run [iT t,.d (ints xs),.any,.any,.any] rfl rfl rfl rfl ?_;refine gr ?_;refine Ex.J0 (fun k T H=>∃ (i:Nat) (v w:b6) (p:Int),T=[v,.d (ints xs),.ptr 0 0,w,.d (num i)]/\H=[.cells (t.enc.map .d)]/\i+k=xs.length/\p=(if i=0 then -1 else nth xs (i - 1))/\ -1<=p/\T1 t (-1) xs=T1 t p (xs.drop i)) (by rintro _ _ _ ⟨_,_,_,_,_,rfl,_⟩;rfl) ?_ (k:=xs.length) ⟨0,_,_, -1,rfl,rfl,by simp,by simp,by omega,by simp⟩;rintro k _ _ ⟨i,v,w,p,rfl,rfl,hk,hp,hp1,hi⟩;refine Ex.nT ?_;refine Ex.seq ?_;refine tb (C9 i xs.length) (fun h1=> ?_) (fun h1=> ?_)
 ·have h2:=y9 h1
  rw [A2 (by omega)] at hi;have hq:(((i:Int) - 1).toNat)=i - 1:=by omega
  refine gr ?_;refine tB (!(n7 (nth xs i) 0 (t.m7.length - 1))||(C9 0 i&&W8 (nth xs i) (nth xs (i - 1)))||(J2 (nth t.m7 (nth xs i).toNat).space []&&J2 (nth t.m7 (nth xs i).toNat).refs [])) ?_ (fun h3=> ?_) (fun h3=> ?_)
  ·repeat' (first|refine cl (qa _ _ _) ?_|refine gx ?_|refine fk (h1:=fun hw=> ?_) (h2:=fun hw=> ?_)|refine L7 (h1:=fun hw=> ?_) (h2:=fun hw=> ?_)|refine ⟨rfl,rfl,_,rfl,?_⟩|refine ⟨rfl,rfl⟩|fail)
   all_goals first|(simp [*,b8,hq];done)|(simp_all [b8,hq];done)|(simp_all [b8,hq,p5,p4,j9,B8];done)|(simp_all [b8,hq,p5,p4,j9,B8]<;>omega)
  ·refine gr ?_
   refine ⟨_,rfl,?_⟩;have h5:(C9 p (nth xs i)&&C9 (nth xs i) t.m7.length&& !(J2 (nth t.m7 (nth xs i).toNat).space []&&J2 (nth t.m7 (nth xs i).toNat).refs []))=false:=by
    rcases hS:(J2 (nth t.m7 (nth xs i).toNat).space []&&J2 (nth t.m7 (nth xs i).toNat).refs []) with _|_
    ·simp [hS,n7,p5,p4] at h3 ⊢
     by_cases h0:i=0
     ·simp [h0] at hp h3 ⊢;omega
     ·simp [h0] at hp;omega
    ·simp
   rw [hi,T1,h5];simp [b8]
  ·refine gr ?_
   have h5:C9 p (nth xs i)=true/\C9 (nth xs i) t.m7.length=true/\(J2 (nth t.m7 (nth xs i).toNat).space []&&J2 (nth t.m7 (nth xs i).toNat).refs [])=false:=by
    simp only [Bool.or_eq_false_iff] at h3;refine ⟨?_,?_,h3.2⟩
    ·simp [n7,p5,p4] at h3 ⊢
     by_cases h0:i=0
     ·simp [h0] at hp h3 ⊢;omega
     ·simp [h0] at hp;omega
    ·simp [n7,p5,p4] at h3 ⊢
     omega
   refine ⟨k - 1,by omega,i+1,_,_,nth xs i,rfl,rfl,by omega,by simp,?_,?_⟩
   ·have:=y9 h5.1;omega
   ·rw [hi,T1,h5.1,h5.2.1,h5.2.2]
    simp
 ·refine gr ?_
  have h2:=y8 h1;rw [k9 (by omega)] at hi;exact ⟨_,rfl,by simp [hi,T1,b8]⟩
def Z2 (c:m8)(n i:Nat):Int :=
 if !E3 (nth (nth c.j3 n).m7 i).name||(!J2 (nth (nth c.j3 n).m7 i).space []&& !E3 (nth (nth c.j3 n).m7 i).space) then 3
 else if ((nth c.j3 n).m7.take i).any fun y=>J2 y.name (nth (nth c.j3 n).m7 i).name then 4
 else if !J2 (nth (nth c.j3 n).m7 i).refs []&&C9 (dZ c (nth (nth c.j3 n).m7 i).refs n) 0 then 7
 else if (!o9 (nth (nth c.j3 n).m7 i).type 1&& !o9 (nth (nth c.j3 n).m7 i).type 2)||(W8 0 (dZ c (nth (nth c.j3 n).m7 i).refs n)&& !J2 (nth (nth c.j3 n).m7 i).refs []&& !o9 (nth (nth c.j3 (dZ c (nth (nth c.j3 n).m7 i).refs n).toNat).m7 0).type (nth (nth c.j3 n).m7 i).type) then 5
 else if (!J2 (nth (nth c.j3 n).m7 i).space []&& !J2 (nth (nth c.j3 n).m7 i).refs [])|| !T1 (nth c.j3 n) (-1) (nth (nth c.j3 n).m7 i).C5|| !n7 (nth (nth c.j3 n).m7 i).ek 0 1||(o9 (nth (nth c.j3 n).m7 i).C5.length 0&&(!o9 (nth (nth c.j3 n).m7 i).ek 0|| !o9 (nth (nth c.j3 n).m7 i).ir 0)) then 1
 else if !n7 (nth (nth c.j3 n).m7 i).ir 0 1048576||(!o9 (nth c.j3 n).Z4 0&&C9 (nth c.j3 n).Z4 (nth (nth c.j3 n).m7 i).ir)||(o9 i 0&&C9 0 (nth (nth c.j3 n).m7 i).C5.length&& !o9 (nth c.j3 n).erase 1) then 1
 else if (!J2 (nth (nth c.j3 n).m7 i).refs []&&C9 0 (nth (nth c.j3 (dZ c (nth (nth c.j3 n).m7 i).refs n).toNat).m7 0).C5.length)&& !hasB (nth (nth c.j3 n).m7 i).C5 i then 1
 else 0
theorem cA (name:D8):∀ (l:List D8) (i:Nat),C0 name l i= -1\/((i:Int)<=C0 name l i/\C0 name l i<i+l.length)
 |[],i=>Or.inl rfl
 |x::r,i=>by
  simp only [C0];split
  ·right;simp;omega
  ·rcases cA name r (i+1) with h|h
   ·exact Or.inl h
   ·right;simp;omega
theorem Jd (c:m8)(name:D8)(n:Nat):dZ c name n= -1\/(0<=dZ c name n/\dZ c name n<n/\dZ c name n<c.j3.length):=by
 unfold dZ D5
 rcases cA name ((m8.sn c).take (min n c.j3.length)) 0 with h|h
 ·exact Or.inl h
 ·right
  simp at h;omega
set_option maxHeartbeats 8000000 in
theorem aO4 (c:m8)(n i:Nat)(hf:c.fI)(hn:n<c.j3.length)(hi:i<(nth c.j3 n).m7.length)(hl:(nth c.j3 n).m7.length<=1000)(ho:(nth (nth c.j3 n).m7 i).C5.length<=1000)(hp:∀ m,m<n->0<(nth c.j3 m).m7.length):Pf A 96 [cat c,.d (num n),.d (num i)] (.d (num (Z2 c n i))):=by
 have hn2:n<=1000:=by obtain ⟨f0,_⟩:=hf;omega
 have hb:dZ c (nth (nth c.j3 n).m7 i).refs n= -1\/(0<=dZ c (nth (nth c.j3 n).m7 i).refs n/\dZ c (nth (nth c.j3 n).m7 i).refs n<n/\dZ c (nth (nth c.j3 n).m7 i).refs n<c.j3.length/\0<(nth c.j3 (dZ c (nth (nth c.j3 n).m7 i).refs n).toNat).m7.length):=by
  rcases Jd c (nth (nth c.j3 n).m7 i).refs n with h|h
  ·exact Or.inl h
  ·exact Or.inr ⟨h.1,h.2.1,h.2.2,hp _ (by omega)⟩
 refine Pf.run [cat c,.d (num n),.d (num i),.any,.any,.any,.any,.any,.any] rfl rfl rfl rfl ?_;refine gr ?_;refine tB (!E3 (nth (nth c.j3 n).m7 i).name||(!J2 (nth (nth c.j3 n).m7 i).space []&& !E3 (nth (nth c.j3 n).m7 i).space)) ?_ (fun h1=> ?_) (fun h1=> ?_)
 ·repeat' (first|refine cl (XV _) ?_|refine gx ?_|refine fk (h1:=fun hw=> ?_) (h2:=fun hw=> ?_)|refine L7 (h1:=fun hw=> ?_) (h2:=fun hw=> ?_)|refine ⟨rfl,rfl,_,rfl,?_⟩|refine ⟨rfl,rfl⟩|fail)
  all_goals exact cc
 ·refine gr ?_
  exact ⟨_,rfl,by simp only [b8,num,Z2,h1,b7,if_true,if_false]⟩
 refine gr ?_;refine Ex.J0 (fun k T H=>∃ (j:Nat) (v w z:b6),T=[v,.d (num n),.d (num i),.ptr 0 0,w,.ptr 1 0,.ptr 2 0,.d (num j),z]/\H=[.cells (c.enc.map .d),.cells ((nth c.j3 n).enc.map .d),.cells ((nth (nth c.j3 n).m7 i).enc.map .d)]/\j+k=i/\(((nth c.j3 n).m7.take i).any fun y=>J2 y.name (nth (nth c.j3 n).m7 i).name)=((((nth c.j3 n).m7.take i).drop j).any fun y=>J2 y.name (nth (nth c.j3 n).m7 i).name)) (by rintro _ _ _ ⟨_,_,_,_,_,rfl,_⟩;rfl) ?_ (k:=i) ⟨0,_,_,_,rfl,rfl,by simp,by simp⟩;rintro k _ _ ⟨j,v,w,z,rfl,rfl,hk,hj⟩;refine Ex.nT ?_;refine Ex.seq ?_;refine tb (C9 j i) (fun h8=> ?_) (fun h8=> ?_)
 ·have h9:=y9 h8
  rw [jm (by omega) (by omega)] at hj
  repeat' (first|refine gx ?_|refine Ex.H7 ?_|refine Ex.H8 ?_|refine Ex.cond rfl (fun ht=> ?_) (fun ht=> ?_)|refine Ex.test (Rn.text ?_)|refine Ex.test (Rn.draw ?_)|refine ⟨_,rfl,fun ht=> ?_,fun ht=> ?_⟩|refine ⟨_,rfl,?_⟩|fail)
  ·have h2:(((nth c.j3 n).m7.take i).any fun y=>J2 y.name (nth (nth c.j3 n).m7 i).name)=true:=by rw [hj];simp [ht]
   simp only [b8,num,Z2,h1,h2,b7,if_true,if_false]
  ·exact ⟨k - 1,by omega,j+1,_,_,_,rfl,rfl,by omega,by rw [hj];simp [ht]⟩
 have h9:=y8 h8;rw [k9 (by simp;omega)] at hj;have h2:(((nth c.j3 n).m7.take i).any fun y=>J2 y.name (nth (nth c.j3 n).m7 i).name)=false:=by rw [hj];rfl
 clear hj h8 hk
 repeat' (first|refine cl (PZ c (nth (nth c.j3 n).m7 i).refs n hf (by omega)) ?_|refine gx ?_|fail)
 refine tb (!J2 (nth (nth c.j3 n).m7 i).refs []&&C9 (dZ c (nth (nth c.j3 n).m7 i).refs n) 0) (fun h3=> ?_) (fun h3=> ?_)
 ·refine gr ?_
  exact ⟨_,rfl,by simp only [b8,num,Z2,h1,h2,h3,b7,if_true,if_false]⟩
 have h3' :(!J2 (nth (nth c.j3 n).m7 i).refs [])=true->0<=dZ c (nth (nth c.j3 n).m7 i).refs n:=fun h=>by
  simp only [h,Bool.true_and] at h3;exact y8 h3
 have h3q:(!J2 (nth (nth c.j3 n).m7 i).refs [])=true->0<(nth c.j3 (dZ c (nth (nth c.j3 n).m7 i).refs n).toNat).m7.length:=fun h=>by have:=h3' h;omega
 refine tb ((!o9 (nth (nth c.j3 n).m7 i).type 1&& !o9 (nth (nth c.j3 n).m7 i).type 2)||(W8 0 (dZ c (nth (nth c.j3 n).m7 i).refs n)&& !J2 (nth (nth c.j3 n).m7 i).refs []&& !o9 (nth (nth c.j3 (dZ c (nth (nth c.j3 n).m7 i).refs n).toNat).m7 0).type (nth (nth c.j3 n).m7 i).type)) (fun h4=> ?_) (fun h4=> ?_)
 ·refine gr ?_
  exact ⟨_,rfl,by simp only [b8,num,Z2,h1,h2,h3,h4,b7,if_true,if_false]⟩
 refine tB ((!J2 (nth (nth c.j3 n).m7 i).space []&& !J2 (nth (nth c.j3 n).m7 i).refs [])|| !T1 (nth c.j3 n) (-1) (nth (nth c.j3 n).m7 i).C5|| !n7 (nth (nth c.j3 n).m7 i).ek 0 1||(o9 (nth (nth c.j3 n).m7 i).C5.length 0&&(!o9 (nth (nth c.j3 n).m7 i).ek 0|| !o9 (nth (nth c.j3 n).m7 i).ir 0))) ?_ (fun h5=> ?_) (fun h5=> ?_)
 ·repeat' (first|refine cl (ak3 (nth c.j3 n) (nth (nth c.j3 n).m7 i).C5 ho hl) ?_|refine cl (qa _ _ _) ?_|refine gx ?_|refine fk (h1:=fun hw=> ?_) (h2:=fun hw=> ?_)|refine L7 (h1:=fun hw=> ?_) (h2:=fun hw=> ?_)|refine ⟨rfl,rfl,_,rfl,?_⟩|refine ⟨rfl,rfl⟩|fail)
  all_goals exact cc
 ·refine gr ?_
  exact ⟨_,rfl,by simp only [b8,num,Z2,h1,h2,h3,h4,h5,b7,if_true,if_false]⟩
 refine tB (!n7 (nth (nth c.j3 n).m7 i).ir 0 1048576||(!o9 (nth c.j3 n).Z4 0&&C9 (nth c.j3 n).Z4 (nth (nth c.j3 n).m7 i).ir)||(o9 i 0&&C9 0 (nth (nth c.j3 n).m7 i).C5.length&& !o9 (nth c.j3 n).erase 1)) ?_ (fun h6=> ?_) (fun h6=> ?_)
 ·repeat' (first|refine cl (qa _ _ _) ?_|refine gx ?_|refine fk (h1:=fun hw=> ?_) (h2:=fun hw=> ?_)|refine L7 (h1:=fun hw=> ?_) (h2:=fun hw=> ?_)|refine ⟨rfl,rfl,_,rfl,?_⟩|refine ⟨rfl,rfl⟩|fail)
  all_goals exact cc
 ·refine gr ?_
  exact ⟨_,rfl,by simp only [b8,num,Z2,h1,h2,h3,h4,h5,h6,b7,if_true,if_false]⟩
 refine tB ((!J2 (nth (nth c.j3 n).m7 i).refs []&&C9 0 (nth (nth c.j3 (dZ c (nth (nth c.j3 n).m7 i).refs n).toNat).m7 0).C5.length)&& !hasB (nth (nth c.j3 n).m7 i).C5 i) ?_ (fun h7=> ?_) (fun h7=> ?_)
 ·repeat' (first|refine cl (an3 (nth (nth c.j3 n).m7 i).C5 i ho) ?_|refine ixZ (hi:=⟨h3' hw,by omega⟩) (h2:= ?_)|refine ixN (hi:=h3q hw) (h2:= ?_)|refine gx ?_|refine fk (h1:=fun hw=> ?_) (h2:=fun hw=> ?_)|refine L7 (h1:=fun hw=> ?_) (h2:=fun hw=> ?_)|refine ⟨rfl,rfl,_,rfl,?_⟩|refine ⟨rfl,rfl⟩|fail)
  all_goals exact cc
 ·refine gr ?_
  exact ⟨_,rfl,by simp only [b8,num,Z2,h1,h2,h3,h4,h5,h6,h7,b7,if_true,if_false]⟩
 refine gr ?_;exact ⟨_,rfl,by simp only [b8,num,Z2,h1,h2,h3,h4,h5,h6,h7,b7,if_true,if_false]⟩
def cn (c:m8)(n:Nat):Nat->Nat->Int
 |0,_=>0
 |k+1,i=>if !o9 (Z2 c n i) 0 then Z2 c n i else cn c n k (i+1)
def dK (c:m8)(n:Nat):Int :=
 if !n7 (nth c.j3 n).m7.length 1 8|| !n7 (nth c.j3 n).erase 0 1|| !n7 (nth c.j3 n).Z4 0 1048576 then 1 else cn c n (nth c.j3 n).m7.length 0
structure m8.small (c:m8):Prop where
 fI:c.fI
 m7:∀ n,n<c.j3.length->(nth c.j3 n).m7.length<=1000
 C5:∀ n i,n<c.j3.length->i<(nth c.j3 n).m7.length->(nth (nth c.j3 n).m7 i).C5.length<=1000
theorem aN9 (c:m8)(n:Nat)(hf:m8.small c)(hn:n<c.j3.length)(hp:∀ m,m<n->0<(nth c.j3 m).m7.length):Pf A 65 [cat c,.d (num n)] (.d (num (dK c n))):=by
 have hl:=hf.m7 n hn;refine Pf.run [cat c,.d (num n),.any,.any,.any,.any,.any] rfl rfl rfl rfl ?_;refine gr ?_;refine tB (!n7 (nth c.j3 n).m7.length 1 8|| !n7 (nth c.j3 n).erase 0 1|| !n7 (nth c.j3 n).Z4 0 1048576) ?_ (fun h1=> ?_) (fun h1=> ?_)
 ·repeat' (first|refine cl (qa _ _ _) ?_|refine gx ?_|refine fk (h1:=fun hw=> ?_) (h2:=fun hw=> ?_)|refine L7 (h1:=fun hw=> ?_) (h2:=fun hw=> ?_)|refine ⟨rfl,rfl,_,rfl,?_⟩|refine ⟨rfl,rfl⟩|fail)
  all_goals exact cc
 ·refine gr ?_
  exact ⟨_,rfl,by simp only [b8,num,dK,h1,if_true]⟩
 refine gr ?_;refine Ex.J0 (fun k T H=>∃ (i:Nat) (v w z:b6),T=[v,.d (num n),.ptr 0 0,w,.ptr 1 0,.d (num i),z]/\H=[.cells (c.enc.map .d),.cells ((nth c.j3 n).enc.map .d)]/\i+k=(nth c.j3 n).m7.length/\dK c n=cn c n k i) (by rintro _ _ _ ⟨_,_,_,_,_,rfl,_⟩;rfl) ?_ (k:=(nth c.j3 n).m7.length) ⟨0,_,_,_,rfl,rfl,by simp,by simp only [dK,h1,b7,if_false]⟩;rintro k _ _ ⟨i,v,w,z,rfl,rfl,hk,hi⟩;refine Ex.nT ?_;refine Ex.seq ?_;refine tb (C9 i (nth c.j3 n).m7.length) (fun h2=> ?_) (fun h2=> ?_)
 ·have h3:=y9 h2
  obtain ⟨k,rfl⟩:∃ k',k=k' +1:=⟨k - 1,by omega⟩
  repeat' (first|refine cl (aO4 c n i hf.fI hn (by omega) hl (hf.C5 n i hn (by omega)) hp) ?_|refine gx ?_|refine Ex.H7 ?_|refine Ex.H8 ?_|refine Ex.cond rfl (fun ht=> ?_) (fun ht=> ?_)|refine Ex.test (Rn.text ?_)|refine Ex.test (Rn.draw ?_)|refine ⟨_,rfl,fun ht=> ?_,fun ht=> ?_⟩|refine ⟨_,rfl,?_⟩|fail)
  ·simp [b8,hi,cn,ht]
  ·exact ⟨k,by omega,i+1,_,_,_,rfl,rfl,by omega,by simp [hi,cn,ht]⟩
 ·have h3:=y8 h2
  obtain rfl:k=0:=by omega
  refine gr ?_;exact ⟨_,rfl,by simp [b8,hi,cn,num]⟩
def mZ (v:Vw):Bool:=(!J2 v.right []||o9 v.on.length 0)&&W8 v.on.length 8&&W8 (v.items.length+v.C1.length) 8
def cH (v:Vw):Bool :=
 if o9 v.kind 2 then !J2 v.right []&&o9 v.on.length 0&&o9 v.wh.length 0&&o9 v.items.length 0&&o9 v.C1.length 0&& !v.distinct
 else if o9 v.kind 0 then !(o9 v.items.length 0||C9 0 v.C1.length)&&mZ v
 else !(o9 v.C1.length 0||v.distinct)&&mZ v
def vw (v:Vw):b6:= .agg (v.enc.map .d)
set_option maxHeartbeats 8000000 in
theorem aO5 (c:m8)(v:Vw)(h0:v.items.length<=1000)(h1:v.C1.length<=1000):Pf A 97 [cat c,vw v] (.d (.bool (cH v))):=by
 refine Pf.run [cat c,vw v,.any,.any,.any] rfl rfl rfl rfl ?_
 repeat' (first|refine gx ?_|refine fk (h1:=fun hw=> ?_) (h2:=fun hw=> ?_)|refine L7 (h1:=fun hw=> ?_) (h2:=fun hw=> ?_)|refine Ex.H7 ?_|refine Ex.H8 ?_|refine Ex.cond rfl (fun ht=> ?_) (fun ht=> ?_)|refine Ex.test (Rn.text ?_)|refine Ex.test (Rn.draw ?_)|refine ⟨_,rfl,fun ht=> ?_,fun ht=> ?_⟩|refine ⟨_,rfl,?_⟩|fail)
 all_goals first|(simp [*,b8,cH,mZ];done)|(simp_all [b8,cH,mZ];done)|(simp_all [b8,cH,mZ,p5,p4,j9,B8];done)|(simp_all [b8,cH,mZ,p5,p4,j9,B8]<;>omega)
def I5 (l r:List Int):List (Int×Int)->Int
 |[]=>0
 |p::ps=>if !n7 p.1 0 (l.length - 1)|| !n7 p.2 0 (r.length - 1) then 3 else if !o9 (nth l p.1.toNat) (nth r p.2.toNat) then 5 else I5 l r ps
theorem aO7 (on:List (Int×Int))(l r:List Int)(h0:on.length<=1000)(h1:l.length<=100000)(h2:r.length<=100000):Pf A 99 [.d (z6 (fun p=>[num p.1,num p.2]) on),.d (ints l),.d (ints r)] (.d (num (I5 l r on))):=by
 refine Pf.run [.d (z6 (fun p=>[num p.1,num p.2]) on),.d (ints l),.d (ints r),.any,.any] rfl rfl rfl rfl ?_;refine gr ?_;refine Ex.J0 (fun k T H=>∃ (i:Nat) (v:b6),T=[.d (z6 (fun p=>[num p.1,num p.2]) on),.d (ints l),.d (ints r),v,.d (num i)]/\H=[]/\i+k=on.length/\I5 l r on=I5 l r (on.drop i)) (by rintro _ _ _ ⟨_,_,_,rfl,_⟩;rfl) ?_ (k:=on.length) ⟨0,_,rfl,rfl,by simp,by simp⟩;rintro k _ _ ⟨i,v,rfl,rfl,hk,hi⟩;refine Ex.nT ?_;refine Ex.seq ?_;refine tb (C9 i on.length) (fun h3=> ?_) (fun h3=> ?_)
 ·have h4:=y9 h3
  rw [A2 (by omega)] at hi;refine gr ?_;refine tB (!n7 (nth on i).1 0 (l.length - 1)|| !n7 (nth on i).2 0 (r.length - 1)) ?_ (fun h5=> ?_) (fun h5=> ?_)
  ·repeat' (first|refine cl (qa _ _ _) ?_|refine gx ?_|refine fk (h1:=fun hw=> ?_) (h2:=fun hw=> ?_)|refine L7 (h1:=fun hw=> ?_) (h2:=fun hw=> ?_)|refine ⟨rfl,rfl,_,rfl,?_⟩|refine ⟨rfl,rfl⟩|fail)
   all_goals exact cc
  ·refine gr ?_
   exact ⟨_,rfl,by simp only [b8,num,hi,I5,h5,if_true]⟩
  have h6:=h5;simp [n7,p4] at h6
  repeat' (first|refine gx ?_|refine Ex.H7 ?_|refine Ex.H8 ?_|refine Ex.cond rfl (fun ht=> ?_) (fun ht=> ?_)|refine Ex.test (Rn.text ?_)|refine Ex.test (Rn.draw ?_)|refine ⟨_,rfl,fun ht=> ?_,fun ht=> ?_⟩|refine ⟨_,rfl,?_⟩|fail)
  ·simp only [b8,num,hi,I5,h5,ht,b7,if_true,if_false]
  ·exact ⟨k - 1,by omega,i+1,_,rfl,rfl,by omega,by simp only [hi,I5,h5,ht,b7,if_false]⟩
 ·have h4:=y8 h3
  rw [k9 (by omega)] at hi;refine gr ?_;exact ⟨_,rfl,by simp [b8,hi,I5,num]⟩
end Go.Proofs.YtkmclibmmlgogaaGreat

