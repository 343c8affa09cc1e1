/- Texts D4 D5 (made short by a program) -/
import Derived.Test.YtkmclibmmlgogaaGreatD0
set_option linter.unusedVariables false
set_option linter.unusedSimpArgs false
open Bool renaming and_eq_true → b5, false_eq_true → b7, or_eq_false_iff → L6
open List renaming drop_of_length_le → m6
namespace Go.Proofs.YtkmclibmmlgogaaGreat
open Go.z7 Go.z7.S
attribute [local irreducible] Rx Ry Rn Ex Pf
def n5.sn (c:n5):List D6:=c.j3.map fu.name++c.views.map Vw.name
def n5.ns (c:n5):Nat:=c.j3.length+c.views.length
def B8 (name:D6):List D6->Nat->Int
 |[],_=> -1
 |x::r,i=>if J4 x name then i else B8 name r (i+1)
def D4 (c:n5)(name:D6)(n:Nat):Int:=B8 name ((n5.sn c).take n) 0
theorem R2 (c:n5):(n5.sn c).length=n5.ns c:=by simp [n5.sn,n5.ns]
theorem wL (c:n5){i:Nat}(h:i<n5.ns c):nth c.names i=nth (n5.sn c) i:=by
 have h1:c.names=n5.sn c++(c.idxs.map iW.name++c.F3.map iK.name++c.F9.map kP.name++c.J3.map jV.name++c.K9.map nq.name++c.M8.map nj.name):=by simp [n5.names,n5.sn]
 have h2:i<(n5.sn c).length:=by rw [R2];exact h
 rw [h1,K0 h2,K0 (by simp;omega),List.getElem_append_left h2]
theorem Z1 (c:n5):n5.ns c<=c.names.length:=by simp [n5.names,n5.ns]
theorem uH (c:n5)(name:D6)(n:Nat)(hf:c.fq)(hn:n<=100000):Pf A 84 [cat c,.d (.str name),.d (num n)] (.d (num (D4 c name n))):=by
 have hl:=Z1 c;have hc:n5.ns c<=2000:=by obtain ⟨f0,f1,_⟩:=hf;unfold n5.ns;omega
 have hs:=R2 c;have qw :c.j3.length+c.views.length<=2000:=hc;refine Pf.run [cat c,.d (.str name),.d (num n),.any,.any,.any,.any] rfl rfl rfl rfl ?_
 repeat' (first|refine cl (aa8 c hf) ?_|refine gx ?_|fail)
 refine Ex.J1 (fun k T H=>∃ (i:Nat) (v w:b6),T=[v,.d (.str name),.d (num n),.ptr 0 0,w,.d (A5 encS c.names),.d (num i)]/\H=[.cells (c.enc.map .d)]/\i+k=n5.ns c/\i<=n/\D4 c name n=B8 name (((n5.sn c).take n).drop i) i) (by rintro _ _ _ ⟨_,_,_,_,rfl,_⟩;rfl) ?_ (k:=n5.ns c) ⟨0,_,_,rfl,rfl,by simp,by omega,by simp [D4]⟩;rintro k _ _ ⟨i,v,w,rfl,rfl,hk,hin,hi⟩;refine Ex.nT ?_;refine Ex.seq ?_;refine tB (C7 i n&&C7 i (n5.ns c)) ?_ (fun h1=> ?_) (fun h1=> ?_)
 ·repeat' (first|refine gx ?_|refine fk (h1:=fun hw=> ?_) (h2:=fun hw=> ?_)|refine L3 (h1:=fun hw=> ?_) (h2:=fun hw=> ?_)|refine ⟨rfl,rfl,_,rfl,?_⟩|refine ⟨rfl,rfl⟩|fail)
  all_goals first|(simp [*,b9,n5.ns];done)|(simp_all [b9,n5.ns];done)|(simp_all [b9,n5.ns,p8,p5,j9,B7];done)|(simp_all [b9,n5.ns,p8,p5,j9,B7]<;>omega)
 ·simp only [b5] at h1
  have h2:=A4 h1.1;have h3:=A4 h1.2;have h4:((n5.sn c).take n).drop i=nth (n5.sn c) i::((n5.sn c).take n).drop (i+1):=by
   rw [A8 (by simp;omega),K0 (by simp;omega),K0 (by omega)];simp
  rw [h4,<- wL c (by omega)] at hi
  repeat' (first|refine gx ?_|refine Ex.I4 ?_|refine Ex.I6 ?_|refine Ex.cond rfl (fun ht=> ?_) (fun ht=> ?_)|refine Ex.test (Rn.text ?_)|refine Ex.test (Rn.draw ?_)|refine ⟨_,rfl,fun ht=> ?_,fun ht=> ?_⟩|refine ⟨_,rfl,?_⟩|fail)
  ·simp [hi,B8,ht,b9,num]
  ·exact ⟨k - 1,by omega,i+1,_,_,rfl,rfl,by omega,by omega,by simp [hi,B8,ht]⟩
 ·repeat' (first|refine gx ?_|refine Ex.I4 ?_|refine Ex.I6 ?_|refine Ex.cond rfl (fun ht=> ?_) (fun ht=> ?_)|refine Ex.test (Rn.text ?_)|refine Ex.test (Rn.draw ?_)|refine ⟨_,rfl,fun ht=> ?_,fun ht=> ?_⟩|refine ⟨_,rfl,?_⟩|fail)
  have h2:((n5.sn c).take n).drop i=[]:=by
   apply m6;simp [p8] at h1;simp;omega
  rw [h2] at hi;simp [hi,B8,b9,num]
def dQ (c:n5)(name:D6)(n:Nat):Int:=D4 c name (min n c.j3.length)
theorem NN (c:n5)(name:D6)(n:Nat)(hf:c.fq)(hn:n<=100000):Pf A 106 [cat c,.d (.str name),.d (num n)] (.d (num (dQ c name n))):=by
 refine Pf.run [cat c,.d (.str name),.d (num n),.any,.any] rfl rfl rfl rfl ?_;refine gr ?_;have e:(if (c.j3.length:Int)<(n:Int) then (c.j3.length:Int) else (n:Int))=((min n c.j3.length:Nat):Int):=by split<;>omega
 refine cl (uH c name (min n c.j3.length) hf (by omega)) ?_ (ha:=by rw [num,<- e];rfl);refine gr ?_;exact ⟨_,rfl,rfl⟩
def S3 (t:fu):Int->List Int->Bool
 |_,[]=>true
 |p,o::r=>C7 p o&&C7 o t.m9.length&& !(J4 (nth t.m9 o.toNat).space []&&J4 (nth t.m9 o.toNat).refs [])&&S3 t o r
def iC (t:fu):b6:= .agg (t.enc.map .d)
theorem ZF (t:fu)(xs:List Int)(hx:xs.length<=1000)(hc:t.m9.length<=1000):Pf A 143 [iC t,.d (ints xs)] (.d (.bool (S3 t (-1) xs))):=by
 refine Pf.run [iC t,.d (ints xs),.any,.any,.any] rfl rfl rfl rfl ?_;refine gr ?_;refine Ex.J1 (fun k T H=>∃ (i:Nat) (v w:b6) (p:Int),T=[v,.d (ints xs),.ptr 0 0,w,.d (num i)]/\H=[.cells (t.enc.map .d)]/\i+k=xs.length/\p=(if i=0 then -1 else nth xs (i - 1))/\ -1<=p/\S3 t (-1) xs=S3 t p (xs.drop i)) (by rintro _ _ _ ⟨_,_,_,_,_,rfl,_⟩;rfl) ?_ (k:=xs.length) ⟨0,_,_, -1,rfl,rfl,by simp,by simp,by omega,by simp⟩;rintro k _ _ ⟨i,v,w,p,rfl,rfl,hk,hp,hp1,hi⟩;refine Ex.nT ?_;refine Ex.seq ?_;refine tb (C7 i xs.length) (fun h1=> ?_) (fun h1=> ?_)
 ·have h2:=A4 h1
  rw [A8 (by omega)] at hi;have hq:(((i:Int) - 1).toNat)=i - 1:=by omega
  refine gr ?_;refine tB (!(n8 (nth xs i) 0 (t.m9.length - 1))||(C7 0 i&&W6 (nth xs i) (nth xs (i - 1)))||(J4 (nth t.m9 (nth xs i).toNat).space []&&J4 (nth t.m9 (nth xs i).toNat).refs [])) ?_ (fun h3=> ?_) (fun h3=> ?_)
  ·repeat' (first|refine cl (pg _ _ _) ?_|refine gx ?_|refine fk (h1:=fun hw=> ?_) (h2:=fun hw=> ?_)|refine L3 (h1:=fun hw=> ?_) (h2:=fun hw=> ?_)|refine ⟨rfl,rfl,_,rfl,?_⟩|refine ⟨rfl,rfl⟩|fail)
   all_goals first|(simp [*,b9,hq];done)|(simp_all [b9,hq];done)|(simp_all [b9,hq,p8,p5,j9,B7];done)|(simp_all [b9,hq,p8,p5,j9,B7]<;>omega)
  ·refine gr ?_
   refine ⟨_,rfl,?_⟩;have h5:(C7 p (nth xs i)&&C7 (nth xs i) t.m9.length&& !(J4 (nth t.m9 (nth xs i).toNat).space []&&J4 (nth t.m9 (nth xs i).toNat).refs []))=false:=by
    rcases hS:(J4 (nth t.m9 (nth xs i).toNat).space []&&J4 (nth t.m9 (nth xs i).toNat).refs []) with _|_
    ·simp [hS,n8,p8,p5] at h3 ⊢
     by_cases h0:i=0
     ·simp [h0] at hp h3 ⊢;omega
     ·simp [h0] at hp;omega
    ·simp
   rw [hi,S3,h5];simp [b9]
  ·refine gr ?_
   have h5:C7 p (nth xs i)=true/\C7 (nth xs i) t.m9.length=true/\(J4 (nth t.m9 (nth xs i).toNat).space []&&J4 (nth t.m9 (nth xs i).toNat).refs [])=false:=by
    simp only [L6] at h3;refine ⟨?_,?_,h3.2⟩
    ·simp [n8,p8,p5] at h3 ⊢
     by_cases h0:i=0
     ·simp [h0] at hp h3 ⊢;omega
     ·simp [h0] at hp;omega
    ·simp [n8,p8,p5] at h3 ⊢
     omega
   refine ⟨k - 1,by omega,i+1,_,_,nth xs i,rfl,rfl,by omega,by simp,?_,?_⟩
   ·have:=A4 h5.1;omega
   ·rw [hi,S3,h5.1,h5.2.1,h5.2.2]
    simp
 ·refine gr ?_
  have h2:=z8 h1;rw [m6 (by omega)] at hi;exact ⟨_,rfl,by simp [hi,S3,b9]⟩
def Y9 (c:n5)(n i:Nat):Int :=
 if !E5 (nth (nth c.j3 n).m9 i).name||(!J4 (nth (nth c.j3 n).m9 i).space []&& !E5 (nth (nth c.j3 n).m9 i).space) then 3
 else if ((nth c.j3 n).m9.take i).any fun y=>J4 y.name (nth (nth c.j3 n).m9 i).name then 4
 else if !J4 (nth (nth c.j3 n).m9 i).refs []&&C7 (dQ c (nth (nth c.j3 n).m9 i).refs n) 0 then 7
 else if (!o9 (nth (nth c.j3 n).m9 i).type 1&& !o9 (nth (nth c.j3 n).m9 i).type 2)||(W6 0 (dQ c (nth (nth c.j3 n).m9 i).refs n)&& !J4 (nth (nth c.j3 n).m9 i).refs []&& !o9 (nth (nth c.j3 (dQ c (nth (nth c.j3 n).m9 i).refs n).toNat).m9 0).type (nth (nth c.j3 n).m9 i).type) then 5
 else if (!J4 (nth (nth c.j3 n).m9 i).space []&& !J4 (nth (nth c.j3 n).m9 i).refs [])|| !S3 (nth c.j3 n) (-1) (nth (nth c.j3 n).m9 i).C9|| !n8 (nth (nth c.j3 n).m9 i).fF 0 1||(o9 (nth (nth c.j3 n).m9 i).C9.length 0&&(!o9 (nth (nth c.j3 n).m9 i).fF 0|| !o9 (nth (nth c.j3 n).m9 i).jj 0)) then 1
 else if !n8 (nth (nth c.j3 n).m9 i).jj 0 1048576||(!o9 (nth c.j3 n).aI 0&&C7 (nth c.j3 n).aI (nth (nth c.j3 n).m9 i).jj)||(o9 i 0&&C7 0 (nth (nth c.j3 n).m9 i).C9.length&& !o9 (nth c.j3 n).erase 1) then 1
 else if (!J4 (nth (nth c.j3 n).m9 i).refs []&&C7 0 (nth (nth c.j3 (dQ c (nth (nth c.j3 n).m9 i).refs n).toNat).m9 0).C9.length)&& !hasB (nth (nth c.j3 n).m9 i).C9 i then 1
 else 0
theorem bZ (name:D6):∀ (l:List D6) (i:Nat),B8 name l i= -1\/((i:Int)<=B8 name l i/\B8 name l i<i+l.length)
 |[],i=>Or.inl rfl
 |x::r,i=>by
  simp only [B8];split
  ·right;simp;omega
  ·rcases bZ name r (i+1) with h|h
   ·exact Or.inl h
   ·right;simp;omega
theorem HQ (c:n5)(name:D6)(n:Nat):dQ c name n= -1\/(0<=dQ c name n/\dQ c name n<n/\dQ c name n<c.j3.length):=by
 unfold dQ D4
 rcases bZ name ((n5.sn c).take (min n c.j3.length)) 0 with h|h
 ·exact Or.inl h
 ·right
  simp at h;omega
set_option maxHeartbeats 8000000 in
theorem aB7 (c:n5)(n i:Nat)(hf:c.fq)(hn:n<c.j3.length)(hi:i<(nth c.j3 n).m9.length)(hl:(nth c.j3 n).m9.length<=1000)(ho:(nth (nth c.j3 n).m9 i).C9.length<=1000)(hp:∀ m,m<n->0<(nth c.j3 m).m9.length):Pf A 96 [cat c,.d (num n),.d (num i)] (.d (num (Y9 c n i))):=by
 have hn2:n<=1000:=by obtain ⟨f0,_⟩:=hf;omega
 have hb:dQ c (nth (nth c.j3 n).m9 i).refs n= -1\/(0<=dQ c (nth (nth c.j3 n).m9 i).refs n/\dQ c (nth (nth c.j3 n).m9 i).refs n<n/\dQ c (nth (nth c.j3 n).m9 i).refs n<c.j3.length/\0<(nth c.j3 (dQ c (nth (nth c.j3 n).m9 i).refs n).toNat).m9.length):=by
  rcases HQ c (nth (nth c.j3 n).m9 i).refs n with h|h
  ·exact Or.inl h
  ·exact Or.inr ⟨h.1,h.2.1,h.2.2,hp _ (by omega)⟩
 refine Pf.run [cat c,.d (num n),.d (num i),.any,.any,.any,.any,.any,.any] rfl rfl rfl rfl ?_;refine gr ?_;refine tB (!E5 (nth (nth c.j3 n).m9 i).name||(!J4 (nth (nth c.j3 n).m9 i).space []&& !E5 (nth (nth c.j3 n).m9 i).space)) ?_ (fun h1=> ?_) (fun h1=> ?_)
 ·repeat' (first|refine cl (VB _) ?_|refine gx ?_|refine fk (h1:=fun hw=> ?_) (h2:=fun hw=> ?_)|refine L3 (h1:=fun hw=> ?_) (h2:=fun hw=> ?_)|refine ⟨rfl,rfl,_,rfl,?_⟩|refine ⟨rfl,rfl⟩|fail)
  all_goals exact cc
 ·refine gr ?_
  exact ⟨_,rfl,by simp only [b9,num,Y9,h1,b7,if_true,if_false]⟩
 refine gr ?_;refine Ex.J1 (fun k T H=>∃ (j:Nat) (v w z:b6),T=[v,.d (num n),.d (num i),.ptr 0 0,w,.ptr 1 0,.ptr 2 0,.d (num j),z]/\H=[.cells (c.enc.map .d),.cells ((nth c.j3 n).enc.map .d),.cells ((nth (nth c.j3 n).m9 i).enc.map .d)]/\j+k=i/\(((nth c.j3 n).m9.take i).any fun y=>J4 y.name (nth (nth c.j3 n).m9 i).name)=((((nth c.j3 n).m9.take i).drop j).any fun y=>J4 y.name (nth (nth c.j3 n).m9 i).name)) (by rintro _ _ _ ⟨_,_,_,_,_,rfl,_⟩;rfl) ?_ (k:=i) ⟨0,_,_,_,rfl,rfl,by simp,by simp⟩;rintro k _ _ ⟨j,v,w,z,rfl,rfl,hk,hj⟩;refine Ex.nT ?_;refine Ex.seq ?_;refine tb (C7 j i) (fun h8=> ?_) (fun h8=> ?_)
 ·have h9:=A4 h8
  rw [iU (by omega) (by omega)] at hj
  repeat' (first|refine gx ?_|refine Ex.I4 ?_|refine Ex.I6 ?_|refine Ex.cond rfl (fun ht=> ?_) (fun ht=> ?_)|refine Ex.test (Rn.text ?_)|refine Ex.test (Rn.draw ?_)|refine ⟨_,rfl,fun ht=> ?_,fun ht=> ?_⟩|refine ⟨_,rfl,?_⟩|fail)
  ·have h2:(((nth c.j3 n).m9.take i).any fun y=>J4 y.name (nth (nth c.j3 n).m9 i).name)=true:=by rw [hj];simp [ht]
   simp only [b9,num,Y9,h1,h2,b7,if_true,if_false]
  ·exact ⟨k - 1,by omega,j+1,_,_,_,rfl,rfl,by omega,by rw [hj];simp [ht]⟩
 have h9:=z8 h8;rw [m6 (by simp;omega)] at hj;have h2:(((nth c.j3 n).m9.take i).any fun y=>J4 y.name (nth (nth c.j3 n).m9 i).name)=false:=by rw [hj];rfl
 clear hj h8 hk
 repeat' (first|refine cl (NN c (nth (nth c.j3 n).m9 i).refs n hf (by omega)) ?_|refine gx ?_|fail)
 refine tb (!J4 (nth (nth c.j3 n).m9 i).refs []&&C7 (dQ c (nth (nth c.j3 n).m9 i).refs n) 0) (fun h3=> ?_) (fun h3=> ?_)
 ·refine gr ?_
  exact ⟨_,rfl,by simp only [b9,num,Y9,h1,h2,h3,b7,if_true,if_false]⟩
 have h3' :(!J4 (nth (nth c.j3 n).m9 i).refs [])=true->0<=dQ c (nth (nth c.j3 n).m9 i).refs n:=fun h=>by
  simp only [h,Bool.true_and] at h3;exact z8 h3
 have h3q:(!J4 (nth (nth c.j3 n).m9 i).refs [])=true->0<(nth c.j3 (dQ c (nth (nth c.j3 n).m9 i).refs n).toNat).m9.length:=fun h=>by have:=h3' h;omega
 refine tb ((!o9 (nth (nth c.j3 n).m9 i).type 1&& !o9 (nth (nth c.j3 n).m9 i).type 2)||(W6 0 (dQ c (nth (nth c.j3 n).m9 i).refs n)&& !J4 (nth (nth c.j3 n).m9 i).refs []&& !o9 (nth (nth c.j3 (dQ c (nth (nth c.j3 n).m9 i).refs n).toNat).m9 0).type (nth (nth c.j3 n).m9 i).type)) (fun h4=> ?_) (fun h4=> ?_)
 ·refine gr ?_
  exact ⟨_,rfl,by simp only [b9,num,Y9,h1,h2,h3,h4,b7,if_true,if_false]⟩
 refine tB ((!J4 (nth (nth c.j3 n).m9 i).space []&& !J4 (nth (nth c.j3 n).m9 i).refs [])|| !S3 (nth c.j3 n) (-1) (nth (nth c.j3 n).m9 i).C9|| !n8 (nth (nth c.j3 n).m9 i).fF 0 1||(o9 (nth (nth c.j3 n).m9 i).C9.length 0&&(!o9 (nth (nth c.j3 n).m9 i).fF 0|| !o9 (nth (nth c.j3 n).m9 i).jj 0))) ?_ (fun h5=> ?_) (fun h5=> ?_)
 ·repeat' (first|refine cl (ZF (nth c.j3 n) (nth (nth c.j3 n).m9 i).C9 ho hl) ?_|refine cl (pg _ _ _) ?_|refine gx ?_|refine fk (h1:=fun hw=> ?_) (h2:=fun hw=> ?_)|refine L3 (h1:=fun hw=> ?_) (h2:=fun hw=> ?_)|refine ⟨rfl,rfl,_,rfl,?_⟩|refine ⟨rfl,rfl⟩|fail)
  all_goals exact cc
 ·refine gr ?_
  exact ⟨_,rfl,by simp only [b9,num,Y9,h1,h2,h3,h4,h5,b7,if_true,if_false]⟩
 refine tB (!n8 (nth (nth c.j3 n).m9 i).jj 0 1048576||(!o9 (nth c.j3 n).aI 0&&C7 (nth c.j3 n).aI (nth (nth c.j3 n).m9 i).jj)||(o9 i 0&&C7 0 (nth (nth c.j3 n).m9 i).C9.length&& !o9 (nth c.j3 n).erase 1)) ?_ (fun h6=> ?_) (fun h6=> ?_)
 ·repeat' (first|refine cl (pg _ _ _) ?_|refine gx ?_|refine fk (h1:=fun hw=> ?_) (h2:=fun hw=> ?_)|refine L3 (h1:=fun hw=> ?_) (h2:=fun hw=> ?_)|refine ⟨rfl,rfl,_,rfl,?_⟩|refine ⟨rfl,rfl⟩|fail)
  all_goals exact cc
 ·refine gr ?_
  exact ⟨_,rfl,by simp only [b9,num,Y9,h1,h2,h3,h4,h5,h6,b7,if_true,if_false]⟩
 refine tB ((!J4 (nth (nth c.j3 n).m9 i).refs []&&C7 0 (nth (nth c.j3 (dQ c (nth (nth c.j3 n).m9 i).refs n).toNat).m9 0).C9.length)&& !hasB (nth (nth c.j3 n).m9 i).C9 i) ?_ (fun h7=> ?_) (fun h7=> ?_)
 ·repeat' (first|refine cl (aa9 (nth (nth c.j3 n).m9 i).C9 i ho) ?_|refine ixZ (hi:=⟨h3' hw,by omega⟩) (h2:= ?_)|refine ixN (hi:=h3q hw) (h2:= ?_)|refine gx ?_|refine fk (h1:=fun hw=> ?_) (h2:=fun hw=> ?_)|refine L3 (h1:=fun hw=> ?_) (h2:=fun hw=> ?_)|refine ⟨rfl,rfl,_,rfl,?_⟩|refine ⟨rfl,rfl⟩|fail)
  all_goals exact cc
 ·refine gr ?_
  exact ⟨_,rfl,by simp only [b9,num,Y9,h1,h2,h3,h4,h5,h6,h7,b7,if_true,if_false]⟩
 refine gr ?_;exact ⟨_,rfl,by simp only [b9,num,Y9,h1,h2,h3,h4,h5,h6,h7,b7,if_true,if_false]⟩
def bS (c:n5)(n:Nat):Nat->Nat->Int
 |0,_=>0
 |k+1,i=>if !o9 (Y9 c n i) 0 then Y9 c n i else bS c n k (i+1)
def dA (c:n5)(n:Nat):Int :=
 if !n8 (nth c.j3 n).m9.length 1 8|| !n8 (nth c.j3 n).erase 0 1|| !n8 (nth c.j3 n).aI 0 1048576 then 1 else bS c n (nth c.j3 n).m9.length 0
structure n5.small (c:n5):Prop where
 fq:c.fq
 m9:∀ n,n<c.j3.length->(nth c.j3 n).m9.length<=1000
 C9:∀ n i,n<c.j3.length->i<(nth c.j3 n).m9.length->(nth (nth c.j3 n).m9 i).C9.length<=1000
theorem aB2 (c:n5)(n:Nat)(hf:n5.small c)(hn:n<c.j3.length)(hp:∀ m,m<n->0<(nth c.j3 m).m9.length):Pf A 65 [cat c,.d (num n)] (.d (num (dA c n))):=by
 have hl:=hf.m9 n hn;refine Pf.run [cat c,.d (num n),.any,.any,.any,.any,.any] rfl rfl rfl rfl ?_;refine gr ?_;refine tB (!n8 (nth c.j3 n).m9.length 1 8|| !n8 (nth c.j3 n).erase 0 1|| !n8 (nth c.j3 n).aI 0 1048576) ?_ (fun h1=> ?_) (fun h1=> ?_)
 ·repeat' (first|refine cl (pg _ _ _) ?_|refine gx ?_|refine fk (h1:=fun hw=> ?_) (h2:=fun hw=> ?_)|refine L3 (h1:=fun hw=> ?_) (h2:=fun hw=> ?_)|refine ⟨rfl,rfl,_,rfl,?_⟩|refine ⟨rfl,rfl⟩|fail)
  all_goals exact cc
 ·refine gr ?_
  exact ⟨_,rfl,by simp only [b9,num,dA,h1,if_true]⟩
 refine gr ?_;refine Ex.J1 (fun k T H=>∃ (i:Nat) (v w z:b6),T=[v,.d (num n),.ptr 0 0,w,.ptr 1 0,.d (num i),z]/\H=[.cells (c.enc.map .d),.cells ((nth c.j3 n).enc.map .d)]/\i+k=(nth c.j3 n).m9.length/\dA c n=bS c n k i) (by rintro _ _ _ ⟨_,_,_,_,_,rfl,_⟩;rfl) ?_ (k:=(nth c.j3 n).m9.length) ⟨0,_,_,_,rfl,rfl,by simp,by simp only [dA,h1,b7,if_false]⟩;rintro k _ _ ⟨i,v,w,z,rfl,rfl,hk,hi⟩;refine Ex.nT ?_;refine Ex.seq ?_;refine tb (C7 i (nth c.j3 n).m9.length) (fun h2=> ?_) (fun h2=> ?_)
 ·have h3:=A4 h2
  obtain ⟨k,rfl⟩:∃ k',k=k' +1:=⟨k - 1,by omega⟩
  repeat' (first|refine cl (aB7 c n i hf.fq hn (by omega) hl (hf.C9 n i hn (by omega)) hp) ?_|refine gx ?_|refine Ex.I4 ?_|refine Ex.I6 ?_|refine Ex.cond rfl (fun ht=> ?_) (fun ht=> ?_)|refine Ex.test (Rn.text ?_)|refine Ex.test (Rn.draw ?_)|refine ⟨_,rfl,fun ht=> ?_,fun ht=> ?_⟩|refine ⟨_,rfl,?_⟩|fail)
  ·simp [b9,hi,bS,ht]
  ·exact ⟨k,by omega,i+1,_,_,_,rfl,rfl,by omega,by simp [hi,bS,ht]⟩
 ·have h3:=z8 h2
  obtain rfl:k=0:=by omega
  refine gr ?_;exact ⟨_,rfl,by simp [b9,hi,bS,num]⟩
def mJ (v:Vw):Bool:=(!J4 v.right []||o9 v.on.length 0)&&W6 v.on.length 8&&W6 (v.items.length+v.C2.length) 8
def ct (v:Vw):Bool :=
 if o9 v.kind 2 then !J4 v.right []&&o9 v.on.length 0&&o9 v.wh.length 0&&o9 v.items.length 0&&o9 v.C2.length 0&& !v.distinct
 else if o9 v.kind 0 then !(o9 v.items.length 0||C7 0 v.C2.length)&&mJ v
 else !(o9 v.C2.length 0||v.distinct)&&mJ v
def vw (v:Vw):b6:= .agg (v.enc.map .d)
set_option maxHeartbeats 8000000 in
theorem aB8 (c:n5)(v:Vw)(h0:v.items.length<=1000)(h1:v.C2.length<=1000):Pf A 97 [cat c,vw v] (.d (.bool (ct v))):=by
 refine Pf.run [cat c,vw v,.any,.any,.any] rfl rfl rfl rfl ?_
 repeat' (first|refine gx ?_|refine fk (h1:=fun hw=> ?_) (h2:=fun hw=> ?_)|refine L3 (h1:=fun hw=> ?_) (h2:=fun hw=> ?_)|refine Ex.I4 ?_|refine Ex.I6 ?_|refine Ex.cond rfl (fun ht=> ?_) (fun ht=> ?_)|refine Ex.test (Rn.text ?_)|refine Ex.test (Rn.draw ?_)|refine ⟨_,rfl,fun ht=> ?_,fun ht=> ?_⟩|refine ⟨_,rfl,?_⟩|fail)
 all_goals first|(simp [*,b9,ct,mJ];done)|(simp_all [b9,ct,mJ];done)|(simp_all [b9,ct,mJ,p8,p5,j9,B7];done)|(simp_all [b9,ct,mJ,p8,p5,j9,B7]<;>omega)
def I5 (l r:List Int):List (Int×Int)->Int
 |[]=>0
 |p::ps=>if !n8 p.1 0 (l.length - 1)|| !n8 p.2 0 (r.length - 1) then 3 else if !o9 (nth l p.1.toNat) (nth r p.2.toNat) then 5 else I5 l r ps
theorem aC0 (on:List (Int×Int))(l r:List Int)(h0:on.length<=1000)(h1:l.length<=100000)(h2:r.length<=100000):Pf A 99 [.d (A5 (fun p=>[num p.1,num p.2]) on),.d (ints l),.d (ints r)] (.d (num (I5 l r on))):=by
 refine Pf.run [.d (A5 (fun p=>[num p.1,num p.2]) on),.d (ints l),.d (ints r),.any,.any] rfl rfl rfl rfl ?_;refine gr ?_;refine Ex.J1 (fun k T H=>∃ (i:Nat) (v:b6),T=[.d (A5 (fun p=>[num p.1,num p.2]) on),.d (ints l),.d (ints r),v,.d (num i)]/\H=[]/\i+k=on.length/\I5 l r on=I5 l r (on.drop i)) (by rintro _ _ _ ⟨_,_,_,rfl,_⟩;rfl) ?_ (k:=on.length) ⟨0,_,rfl,rfl,by simp,by simp⟩;rintro k _ _ ⟨i,v,rfl,rfl,hk,hi⟩;refine Ex.nT ?_;refine Ex.seq ?_;refine tb (C7 i on.length) (fun h3=> ?_) (fun h3=> ?_)
 ·have h4:=A4 h3
  rw [A8 (by omega)] at hi;refine gr ?_;refine tB (!n8 (nth on i).1 0 (l.length - 1)|| !n8 (nth on i).2 0 (r.length - 1)) ?_ (fun h5=> ?_) (fun h5=> ?_)
  ·repeat' (first|refine cl (pg _ _ _) ?_|refine gx ?_|refine fk (h1:=fun hw=> ?_) (h2:=fun hw=> ?_)|refine L3 (h1:=fun hw=> ?_) (h2:=fun hw=> ?_)|refine ⟨rfl,rfl,_,rfl,?_⟩|refine ⟨rfl,rfl⟩|fail)
   all_goals exact cc
  ·refine gr ?_
   exact ⟨_,rfl,by simp only [b9,num,hi,I5,h5,if_true]⟩
  have h6:=h5;simp [n8,p5] at h6
  repeat' (first|refine gx ?_|refine Ex.I4 ?_|refine Ex.I6 ?_|refine Ex.cond rfl (fun ht=> ?_) (fun ht=> ?_)|refine Ex.test (Rn.text ?_)|refine Ex.test (Rn.draw ?_)|refine ⟨_,rfl,fun ht=> ?_,fun ht=> ?_⟩|refine ⟨_,rfl,?_⟩|fail)
  ·simp only [b9,num,hi,I5,h5,ht,b7,if_true,if_false]
  ·exact ⟨k - 1,by omega,i+1,_,rfl,rfl,by omega,by simp only [hi,I5,h5,ht,b7,if_false]⟩
 ·have h4:=z8 h3
  rw [m6 (by omega)] at hi;refine gr ?_;exact ⟨_,rfl,by simp [b9,hi,I5,num]⟩
end Go.Proofs.YtkmclibmmlgogaaGreat

