/- Texts D4 D5 (made short by a program) -/
import Derived.Test.YtkmclibmmlgogaaGreatD0
set_option linter.unusedVariables false
set_option linter.unusedSimpArgs false
open Bool renaming and_eq_true → b5, false_eq_true → b7
open List renaming drop_of_length_le → m7
namespace Go.Proofs.YtkmclibmmlgogaaGreat
open Go.u7 Go.u7.S
attribute [local irreducible] Rx Ry Rn Ex Pf
def m9.sn (c:m9):List C7:=c.j3.map er.name++c.views.map Vw.name
def m9.ns (c:m9):Nat:=c.j3.length+c.views.length
def A8 (name:C7):List C7->Nat->Int
 |[],_=> -1
 |x::r,i=>if I9 x name then i else A8 name r (i+1)
def D4 (c:m9)(name:C7)(n:Nat):Int:=A8 name ((m9.sn c).take n) 0
theorem Q2 (c:m9):(m9.sn c).length=m9.ns c:=by simp [m9.sn,m9.ns]
theorem vM (c:m9){i:Nat}(h:i<m9.ns c):nth c.names i=nth (m9.sn c) i:=by
 have h1:c.names=m9.sn c++(c.idxs.map gD.name++c.D6.map gv.name++c.E3.map jy.name++c.G9.map iO.name++c.J3.map kI.name++c.K8.map kH.name):=by simp [m9.names,m9.sn]
 have h2:i<(m9.sn c).length:=by rw [Q2];exact h
 rw [h1,N6 h2,N6 (by simp;omega),List.getElem_append_left h2]
theorem Z9 (c:m9):m9.ns c<=c.names.length:=by simp [m9.names,m9.ns]
theorem Bo (c:m9)(name:C7)(n:Nat)(hf:c.fI)(hn:n<=100000):Pf A 84 [cat c,.d (.str name),.d (num n)] (.d (num (D4 c name n))):=by
 have hl:=Z9 c;have hc:m9.ns c<=2000:=by obtain ⟨f0,f1,_⟩:=hf;unfold m9.ns;omega
 have hs:=Q2 c;have pH :c.j3.length+c.views.length<=2000:=hc;refine Pf.run [cat c,.d (.str name),.d (num n),.any,.any,.any,.any] rfl rfl rfl rfl ?_
 repeat' (first|refine cl (YP c hf) ?_|refine gx ?_|fail)
 refine Ex.I7 (fun k T H=>∃ (i:Nat) (v w:b6),T=[v,.d (.str name),.d (num n),.ptr 0 0,w,.d (y7 encS c.names),.d (num i)]/\H=[.cells (c.enc.map .d)]/\i+k=m9.ns c/\i<=n/\D4 c name n=A8 name (((m9.sn c).take n).drop i) i) (by rintro _ _ _ ⟨_,_,_,_,rfl,_⟩;rfl) ?_ (k:=m9.ns c) ⟨0,_,_,rfl,rfl,by simp,by omega,by simp [D4]⟩;rintro k _ _ ⟨i,v,w,rfl,rfl,hk,hin,hi⟩;refine Ex.nT ?_;refine Ex.seq ?_;refine tB (C2 i n&&C2 i (m9.ns c)) ?_ (fun h1=> ?_) (fun h1=> ?_)
 ·repeat' (first|refine gx ?_|refine fk (h1:=fun hw=> ?_) (h2:=fun hw=> ?_)|refine M8 (h1:=fun hw=> ?_) (h2:=fun hw=> ?_)|refine ⟨rfl,rfl,_,rfl,?_⟩|refine ⟨rfl,rfl⟩|fail)
  all_goals first|(simp [*,b9,m9.ns];done)|(simp_all [b9,m9.ns];done)|(simp_all [b9,m9.ns,o9,o5,j5,A3];done)|(simp_all [b9,m9.ns,o9,o5,j5,A3]<;>omega)
 ·simp only [b5] at h1
  have h2:=z6 h1.1;have h3:=z6 h1.2;have h4:((m9.sn c).take n).drop i=nth (m9.sn c) i::((m9.sn c).take n).drop (i+1):=by
   rw [A4 (by simp;omega),N6 (by simp;omega),N6 (by omega)];simp
  rw [h4,<- vM c (by omega)] at hi
  repeat' (first|refine gx ?_|refine Ex.J6 ?_|refine Ex.J8 ?_|refine Ex.cond rfl (fun ht=> ?_) (fun ht=> ?_)|refine Ex.test (Rn.text ?_)|refine Ex.test (Rn.draw ?_)|refine ⟨_,rfl,fun ht=> ?_,fun ht=> ?_⟩|refine ⟨_,rfl,?_⟩|fail)
  ·simp [hi,A8,ht,b9,num]
  ·exact ⟨k - 1,by omega,i+1,_,_,rfl,rfl,by omega,by omega,by simp [hi,A8,ht]⟩
 ·repeat' (first|refine gx ?_|refine Ex.J6 ?_|refine Ex.J8 ?_|refine Ex.cond rfl (fun ht=> ?_) (fun ht=> ?_)|refine Ex.test (Rn.text ?_)|refine Ex.test (Rn.draw ?_)|refine ⟨_,rfl,fun ht=> ?_,fun ht=> ?_⟩|refine ⟨_,rfl,?_⟩|fail)
  have h2:((m9.sn c).take n).drop i=[]:=by
   apply m7;simp [o9] at h1;simp;omega
  rw [h2] at hi;simp [hi,A8,b9,num]
def dm (c:m9)(name:C7)(n:Nat):Int:=D4 c name (min n c.j3.length)
theorem Nd (c:m9)(name:C7)(n:Nat)(hf:c.fI)(hn:n<=100000):Pf A 106 [cat c,.d (.str name),.d (num n)] (.d (num (dm c name n))):=by
 refine Pf.run [cat c,.d (.str name),.d (num n),.any,.any] rfl rfl rfl rfl ?_;refine gr ?_;have e:(if (c.j3.length:Int)<(n:Int) then (c.j3.length:Int) else (n:Int))=((min n c.j3.length:Nat):Int):=by split<;>omega
 refine cl (Bo c name (min n c.j3.length) hf (by omega)) ?_ (ha:=by rw [num,<- e];rfl);refine gr ?_;exact ⟨_,rfl,rfl⟩
def Q8 (t:er):Int->List Int->Bool
 |_,[]=>true
 |p,o::r=>C2 p o&&C2 o t.m8.length&& !(I9 (nth t.m8 o.toNat).space []&&I9 (nth t.m8 o.toNat).refs [])&&Q8 t o r
def gT (t:er):b6:= .agg (t.enc.map .d)
theorem Yu (t:er)(xs:List Int)(hx:xs.length<=1000)(hc:t.m8.length<=1000):Pf A 143 [gT t,.d (ints xs)] (.d (.bool (Q8 t (-1) xs))):=by
 refine Pf.run [gT t,.d (ints xs),.any,.any,.any] rfl rfl rfl rfl ?_;refine gr ?_;refine Ex.I7 (fun k T H=>∃ (i:Nat) (v w:b6) (p:Int),T=[v,.d (ints xs),.ptr 0 0,w,.d (num i)]/\H=[.cells (t.enc.map .d)]/\i+k=xs.length/\p=(if i=0 then -1 else nth xs (i - 1))/\ -1<=p/\Q8 t (-1) xs=Q8 t p (xs.drop i)) (by rintro _ _ _ ⟨_,_,_,_,_,rfl,_⟩;rfl) ?_ (k:=xs.length) ⟨0,_,_, -1,rfl,rfl,by simp,by simp,by omega,by simp⟩;rintro k _ _ ⟨i,v,w,p,rfl,rfl,hk,hp,hp1,hi⟩;refine Ex.nT ?_;refine Ex.seq ?_;refine tb (C2 i xs.length) (fun h1=> ?_) (fun h1=> ?_)
 ·have h2:=z6 h1
  rw [A4 (by omega)] at hi;have hq:(((i:Int) - 1).toNat)=i - 1:=by omega
  refine gr ?_;refine tB (!(n7 (nth xs i) 0 (t.m8.length - 1))||(C2 0 i&&X4 (nth xs i) (nth xs (i - 1)))||(I9 (nth t.m8 (nth xs i).toNat).space []&&I9 (nth t.m8 (nth xs i).toNat).refs [])) ?_ (fun h3=> ?_) (fun h3=> ?_)
  ·repeat' (first|refine cl (oB _ _ _) ?_|refine gx ?_|refine fk (h1:=fun hw=> ?_) (h2:=fun hw=> ?_)|refine M8 (h1:=fun hw=> ?_) (h2:=fun hw=> ?_)|refine ⟨rfl,rfl,_,rfl,?_⟩|refine ⟨rfl,rfl⟩|fail)
   all_goals first|(simp [*,b9,hq];done)|(simp_all [b9,hq];done)|(simp_all [b9,hq,o9,o5,j5,A3];done)|(simp_all [b9,hq,o9,o5,j5,A3]<;>omega)
  ·refine gr ?_
   refine ⟨_,rfl,?_⟩;have h5:(C2 p (nth xs i)&&C2 (nth xs i) t.m8.length&& !(I9 (nth t.m8 (nth xs i).toNat).space []&&I9 (nth t.m8 (nth xs i).toNat).refs []))=false:=by
    rcases hS:(I9 (nth t.m8 (nth xs i).toNat).space []&&I9 (nth t.m8 (nth xs i).toNat).refs []) with _|_
    ·simp [hS,n7,o9,o5] at h3 ⊢
     by_cases h0:i=0
     ·simp [h0] at hp h3 ⊢;omega
     ·simp [h0] at hp;omega
    ·simp
   rw [hi,Q8,h5];simp [b9]
  ·refine gr ?_
   have h5:C2 p (nth xs i)=true/\C2 (nth xs i) t.m8.length=true/\(I9 (nth t.m8 (nth xs i).toNat).space []&&I9 (nth t.m8 (nth xs i).toNat).refs [])=false:=by
    simp only [Bool.or_eq_false_iff] at h3;refine ⟨?_,?_,h3.2⟩
    ·simp [n7,o9,o5] at h3 ⊢
     by_cases h0:i=0
     ·simp [h0] at hp h3 ⊢;omega
     ·simp [h0] at hp;omega
    ·simp [n7,o9,o5] at h3 ⊢
     omega
   refine ⟨k - 1,by omega,i+1,_,_,nth xs i,rfl,rfl,by omega,by simp,?_,?_⟩
   ·have:=z6 h5.1;omega
   ·rw [hi,Q8,h5.1,h5.2.1,h5.2.2]
    simp
 ·refine gr ?_
  have h2:=z8 h1;rw [m7 (by omega)] at hi;exact ⟨_,rfl,by simp [hi,Q8,b9]⟩
def X6 (c:m9)(n i:Nat):Int :=
 if !D3 (nth (nth c.j3 n).m8 i).name||(!I9 (nth (nth c.j3 n).m8 i).space []&& !D3 (nth (nth c.j3 n).m8 i).space) then 3
 else if ((nth c.j3 n).m8.take i).any fun y=>I9 y.name (nth (nth c.j3 n).m8 i).name then 4
 else if !I9 (nth (nth c.j3 n).m8 i).refs []&&C2 (dm c (nth (nth c.j3 n).m8 i).refs n) 0 then 7
 else if (!o8 (nth (nth c.j3 n).m8 i).type 1&& !o8 (nth (nth c.j3 n).m8 i).type 2)||(X4 0 (dm c (nth (nth c.j3 n).m8 i).refs n)&& !I9 (nth (nth c.j3 n).m8 i).refs []&& !o8 (nth (nth c.j3 (dm c (nth (nth c.j3 n).m8 i).refs n).toNat).m8 0).type (nth (nth c.j3 n).m8 i).type) then 5
 else if (!I9 (nth (nth c.j3 n).m8 i).space []&& !I9 (nth (nth c.j3 n).m8 i).refs [])|| !Q8 (nth c.j3 n) (-1) (nth (nth c.j3 n).m8 i).A7|| !n7 (nth (nth c.j3 n).m8 i).dD 0 1||(o8 (nth (nth c.j3 n).m8 i).A7.length 0&&(!o8 (nth (nth c.j3 n).m8 i).dD 0|| !o8 (nth (nth c.j3 n).m8 i).gw 0)) then 1
 else if !n7 (nth (nth c.j3 n).m8 i).gw 0 1048576||(!o8 (nth c.j3 n).X9 0&&C2 (nth c.j3 n).X9 (nth (nth c.j3 n).m8 i).gw)||(o8 i 0&&C2 0 (nth (nth c.j3 n).m8 i).A7.length&& !o8 (nth c.j3 n).erase 1) then 1
 else if (!I9 (nth (nth c.j3 n).m8 i).refs []&&C2 0 (nth (nth c.j3 (dm c (nth (nth c.j3 n).m8 i).refs n).toNat).m8 0).A7.length)&& !hasB (nth (nth c.j3 n).m8 i).A7 i then 1
 else 0
theorem bJ (name:C7):∀ (l:List C7) (i:Nat),A8 name l i= -1\/((i:Int)<=A8 name l i/\A8 name l i<i+l.length)
 |[],i=>Or.inl rfl
 |x::r,i=>by
  simp only [A8];split
  ·right;simp;omega
  ·rcases bJ name r (i+1) with h|h
   ·exact Or.inl h
   ·right;simp;omega
theorem Hq (c:m9)(name:C7)(n:Nat):dm c name n= -1\/(0<=dm c name n/\dm c name n<n/\dm c name n<c.j3.length):=by
 unfold dm D4
 rcases bJ name ((m9.sn c).take (min n c.j3.length)) 0 with h|h
 ·exact Or.inl h
 ·right
  simp at h;omega
set_option maxHeartbeats 8000000 in
theorem at7 (c:m9)(n i:Nat)(hf:c.fI)(hn:n<c.j3.length)(hi:i<(nth c.j3 n).m8.length)(hl:(nth c.j3 n).m8.length<=1000)(ho:(nth (nth c.j3 n).m8 i).A7.length<=1000)(hp:∀ m,m<n->0<(nth c.j3 m).m8.length):Pf A 96 [cat c,.d (num n),.d (num i)] (.d (num (X6 c n i))):=by
 have hn2:n<=1000:=by obtain ⟨f0,_⟩:=hf;omega
 have hb:dm c (nth (nth c.j3 n).m8 i).refs n= -1\/(0<=dm c (nth (nth c.j3 n).m8 i).refs n/\dm c (nth (nth c.j3 n).m8 i).refs n<n/\dm c (nth (nth c.j3 n).m8 i).refs n<c.j3.length/\0<(nth c.j3 (dm c (nth (nth c.j3 n).m8 i).refs n).toNat).m8.length):=by
  rcases Hq c (nth (nth c.j3 n).m8 i).refs n with h|h
  ·exact Or.inl h
  ·exact Or.inr ⟨h.1,h.2.1,h.2.2,hp _ (by omega)⟩
 refine Pf.run [cat c,.d (num n),.d (num i),.any,.any,.any,.any,.any,.any] rfl rfl rfl rfl ?_;refine gr ?_;refine tB (!D3 (nth (nth c.j3 n).m8 i).name||(!I9 (nth (nth c.j3 n).m8 i).space []&& !D3 (nth (nth c.j3 n).m8 i).space)) ?_ (fun h1=> ?_) (fun h1=> ?_)
 ·repeat' (first|refine cl (Ut _) ?_|refine gx ?_|refine fk (h1:=fun hw=> ?_) (h2:=fun hw=> ?_)|refine M8 (h1:=fun hw=> ?_) (h2:=fun hw=> ?_)|refine ⟨rfl,rfl,_,rfl,?_⟩|refine ⟨rfl,rfl⟩|fail)
  all_goals exact cc
 ·refine gr ?_
  exact ⟨_,rfl,by simp only [b9,num,X6,h1,b7,if_true,if_false]⟩
 refine gr ?_;refine Ex.I7 (fun k T H=>∃ (j:Nat) (v w z:b6),T=[v,.d (num n),.d (num i),.ptr 0 0,w,.ptr 1 0,.ptr 2 0,.d (num j),z]/\H=[.cells (c.enc.map .d),.cells ((nth c.j3 n).enc.map .d),.cells ((nth (nth c.j3 n).m8 i).enc.map .d)]/\j+k=i/\(((nth c.j3 n).m8.take i).any fun y=>I9 y.name (nth (nth c.j3 n).m8 i).name)=((((nth c.j3 n).m8.take i).drop j).any fun y=>I9 y.name (nth (nth c.j3 n).m8 i).name)) (by rintro _ _ _ ⟨_,_,_,_,_,rfl,_⟩;rfl) ?_ (k:=i) ⟨0,_,_,_,rfl,rfl,by simp,by simp⟩;rintro k _ _ ⟨j,v,w,z,rfl,rfl,hk,hj⟩;refine Ex.nT ?_;refine Ex.seq ?_;refine tb (C2 j i) (fun h8=> ?_) (fun h8=> ?_)
 ·have h9:=z6 h8
  rw [iD (by omega) (by omega)] at hj
  repeat' (first|refine gx ?_|refine Ex.J6 ?_|refine Ex.J8 ?_|refine Ex.cond rfl (fun ht=> ?_) (fun ht=> ?_)|refine Ex.test (Rn.text ?_)|refine Ex.test (Rn.draw ?_)|refine ⟨_,rfl,fun ht=> ?_,fun ht=> ?_⟩|refine ⟨_,rfl,?_⟩|fail)
  ·have h2:(((nth c.j3 n).m8.take i).any fun y=>I9 y.name (nth (nth c.j3 n).m8 i).name)=true:=by rw [hj];simp [ht]
   simp only [b9,num,X6,h1,h2,b7,if_true,if_false]
  ·exact ⟨k - 1,by omega,j+1,_,_,_,rfl,rfl,by omega,by rw [hj];simp [ht]⟩
 have h9:=z8 h8;rw [m7 (by simp;omega)] at hj;have h2:(((nth c.j3 n).m8.take i).any fun y=>I9 y.name (nth (nth c.j3 n).m8 i).name)=false:=by rw [hj];rfl
 clear hj h8 hk
 repeat' (first|refine cl (Nd c (nth (nth c.j3 n).m8 i).refs n hf (by omega)) ?_|refine gx ?_|fail)
 refine tb (!I9 (nth (nth c.j3 n).m8 i).refs []&&C2 (dm c (nth (nth c.j3 n).m8 i).refs n) 0) (fun h3=> ?_) (fun h3=> ?_)
 ·refine gr ?_
  exact ⟨_,rfl,by simp only [b9,num,X6,h1,h2,h3,b7,if_true,if_false]⟩
 have ZV :(!I9 (nth (nth c.j3 n).m8 i).refs [])=true->0<=dm c (nth (nth c.j3 n).m8 i).refs n:=fun h=>by
  simp only [h,Bool.true_and] at h3;exact z8 h3
 have h3q:(!I9 (nth (nth c.j3 n).m8 i).refs [])=true->0<(nth c.j3 (dm c (nth (nth c.j3 n).m8 i).refs n).toNat).m8.length:=fun h=>by have:=ZV h;omega
 refine tb ((!o8 (nth (nth c.j3 n).m8 i).type 1&& !o8 (nth (nth c.j3 n).m8 i).type 2)||(X4 0 (dm c (nth (nth c.j3 n).m8 i).refs n)&& !I9 (nth (nth c.j3 n).m8 i).refs []&& !o8 (nth (nth c.j3 (dm c (nth (nth c.j3 n).m8 i).refs n).toNat).m8 0).type (nth (nth c.j3 n).m8 i).type)) (fun h4=> ?_) (fun h4=> ?_)
 ·refine gr ?_
  exact ⟨_,rfl,by simp only [b9,num,X6,h1,h2,h3,h4,b7,if_true,if_false]⟩
 refine tB ((!I9 (nth (nth c.j3 n).m8 i).space []&& !I9 (nth (nth c.j3 n).m8 i).refs [])|| !Q8 (nth c.j3 n) (-1) (nth (nth c.j3 n).m8 i).A7|| !n7 (nth (nth c.j3 n).m8 i).dD 0 1||(o8 (nth (nth c.j3 n).m8 i).A7.length 0&&(!o8 (nth (nth c.j3 n).m8 i).dD 0|| !o8 (nth (nth c.j3 n).m8 i).gw 0))) ?_ (fun h5=> ?_) (fun h5=> ?_)
 ·repeat' (first|refine cl (Yu (nth c.j3 n) (nth (nth c.j3 n).m8 i).A7 ho hl) ?_|refine cl (oB _ _ _) ?_|refine gx ?_|refine fk (h1:=fun hw=> ?_) (h2:=fun hw=> ?_)|refine M8 (h1:=fun hw=> ?_) (h2:=fun hw=> ?_)|refine ⟨rfl,rfl,_,rfl,?_⟩|refine ⟨rfl,rfl⟩|fail)
  all_goals exact cc
 ·refine gr ?_
  exact ⟨_,rfl,by simp only [b9,num,X6,h1,h2,h3,h4,h5,b7,if_true,if_false]⟩
 refine tB (!n7 (nth (nth c.j3 n).m8 i).gw 0 1048576||(!o8 (nth c.j3 n).X9 0&&C2 (nth c.j3 n).X9 (nth (nth c.j3 n).m8 i).gw)||(o8 i 0&&C2 0 (nth (nth c.j3 n).m8 i).A7.length&& !o8 (nth c.j3 n).erase 1)) ?_ (fun h6=> ?_) (fun h6=> ?_)
 ·repeat' (first|refine cl (oB _ _ _) ?_|refine gx ?_|refine fk (h1:=fun hw=> ?_) (h2:=fun hw=> ?_)|refine M8 (h1:=fun hw=> ?_) (h2:=fun hw=> ?_)|refine ⟨rfl,rfl,_,rfl,?_⟩|refine ⟨rfl,rfl⟩|fail)
  all_goals exact cc
 ·refine gr ?_
  exact ⟨_,rfl,by simp only [b9,num,X6,h1,h2,h3,h4,h5,h6,b7,if_true,if_false]⟩
 refine tB ((!I9 (nth (nth c.j3 n).m8 i).refs []&&C2 0 (nth (nth c.j3 (dm c (nth (nth c.j3 n).m8 i).refs n).toNat).m8 0).A7.length)&& !hasB (nth (nth c.j3 n).m8 i).A7 i) ?_ (fun h7=> ?_) (fun h7=> ?_)
 ·repeat' (first|refine cl (at5 (nth (nth c.j3 n).m8 i).A7 i ho) ?_|refine ixZ (hi:=⟨ZV hw,by omega⟩) (h2:= ?_)|refine ixN (hi:=h3q hw) (h2:= ?_)|refine gx ?_|refine fk (h1:=fun hw=> ?_) (h2:=fun hw=> ?_)|refine M8 (h1:=fun hw=> ?_) (h2:=fun hw=> ?_)|refine ⟨rfl,rfl,_,rfl,?_⟩|refine ⟨rfl,rfl⟩|fail)
  all_goals exact cc
 ·refine gr ?_
  exact ⟨_,rfl,by simp only [b9,num,X6,h1,h2,h3,h4,h5,h6,h7,b7,if_true,if_false]⟩
 refine gr ?_;exact ⟨_,rfl,by simp only [b9,num,X6,h1,h2,h3,h4,h5,h6,h7,b7,if_true,if_false]⟩
def bD (c:m9)(n:Nat):Nat->Nat->Int
 |0,_=>0
 |k+1,i=>if !o8 (X6 c n i) 0 then X6 c n i else bD c n k (i+1)
def cU (c:m9)(n:Nat):Int :=
 if !n7 (nth c.j3 n).m8.length 1 8|| !n7 (nth c.j3 n).erase 0 1|| !n7 (nth c.j3 n).X9 0 1048576 then 1 else bD c n (nth c.j3 n).m8.length 0
structure m9.small (c:m9):Prop where
 fI:c.fI
 m8:∀ n,n<c.j3.length->(nth c.j3 n).m8.length<=1000
 A7:∀ n i,n<c.j3.length->i<(nth c.j3 n).m8.length->(nth (nth c.j3 n).m8 i).A7.length<=1000
theorem at0 (c:m9)(n:Nat)(hf:m9.small c)(hn:n<c.j3.length)(hp:∀ m,m<n->0<(nth c.j3 m).m8.length):Pf A 65 [cat c,.d (num n)] (.d (num (cU c n))):=by
 have hl:=hf.m8 n hn;refine Pf.run [cat c,.d (num n),.any,.any,.any,.any,.any] rfl rfl rfl rfl ?_;refine gr ?_;refine tB (!n7 (nth c.j3 n).m8.length 1 8|| !n7 (nth c.j3 n).erase 0 1|| !n7 (nth c.j3 n).X9 0 1048576) ?_ (fun h1=> ?_) (fun h1=> ?_)
 ·repeat' (first|refine cl (oB _ _ _) ?_|refine gx ?_|refine fk (h1:=fun hw=> ?_) (h2:=fun hw=> ?_)|refine M8 (h1:=fun hw=> ?_) (h2:=fun hw=> ?_)|refine ⟨rfl,rfl,_,rfl,?_⟩|refine ⟨rfl,rfl⟩|fail)
  all_goals exact cc
 ·refine gr ?_
  exact ⟨_,rfl,by simp only [b9,num,cU,h1,if_true]⟩
 refine gr ?_;refine Ex.I7 (fun k T H=>∃ (i:Nat) (v w z:b6),T=[v,.d (num n),.ptr 0 0,w,.ptr 1 0,.d (num i),z]/\H=[.cells (c.enc.map .d),.cells ((nth c.j3 n).enc.map .d)]/\i+k=(nth c.j3 n).m8.length/\cU c n=bD c n k i) (by rintro _ _ _ ⟨_,_,_,_,_,rfl,_⟩;rfl) ?_ (k:=(nth c.j3 n).m8.length) ⟨0,_,_,_,rfl,rfl,by simp,by simp only [cU,h1,b7,if_false]⟩;rintro k _ _ ⟨i,v,w,z,rfl,rfl,hk,hi⟩;refine Ex.nT ?_;refine Ex.seq ?_;refine tb (C2 i (nth c.j3 n).m8.length) (fun h2=> ?_) (fun h2=> ?_)
 ·have h3:=z6 h2
  obtain ⟨k,rfl⟩:∃ k',k=k' +1:=⟨k - 1,by omega⟩
  repeat' (first|refine cl (at7 c n i hf.fI hn (by omega) hl (hf.A7 n i hn (by omega)) hp) ?_|refine gx ?_|refine Ex.J6 ?_|refine Ex.J8 ?_|refine Ex.cond rfl (fun ht=> ?_) (fun ht=> ?_)|refine Ex.test (Rn.text ?_)|refine Ex.test (Rn.draw ?_)|refine ⟨_,rfl,fun ht=> ?_,fun ht=> ?_⟩|refine ⟨_,rfl,?_⟩|fail)
  ·simp [b9,hi,bD,ht]
  ·exact ⟨k,by omega,i+1,_,_,_,rfl,rfl,by omega,by simp [hi,bD,ht]⟩
 ·have h3:=z8 h2
  obtain rfl:k=0:=by omega
  refine gr ?_;exact ⟨_,rfl,by simp [b9,hi,bD,num]⟩
def lV (v:Vw):Bool:=(!I9 v.right []||o8 v.on.length 0)&&X4 v.on.length 8&&X4 (v.items.length+v.B3.length) 8
def bT (v:Vw):Bool :=
 if o8 v.kind 2 then !I9 v.right []&&o8 v.on.length 0&&o8 v.wh.length 0&&o8 v.items.length 0&&o8 v.B3.length 0&& !v.distinct
 else if o8 v.kind 0 then !(o8 v.items.length 0||C2 0 v.B3.length)&&lV v
 else !(o8 v.B3.length 0||v.distinct)&&lV v
def vw (v:Vw):b6:= .agg (v.enc.map .d)
set_option maxHeartbeats 8000000 in
theorem at8 (c:m9)(v:Vw)(h0:v.items.length<=1000)(h1:v.B3.length<=1000):Pf A 97 [cat c,vw v] (.d (.bool (bT v))):=by
 refine Pf.run [cat c,vw v,.any,.any,.any] rfl rfl rfl rfl ?_
 repeat' (first|refine gx ?_|refine fk (h1:=fun hw=> ?_) (h2:=fun hw=> ?_)|refine M8 (h1:=fun hw=> ?_) (h2:=fun hw=> ?_)|refine Ex.J6 ?_|refine Ex.J8 ?_|refine Ex.cond rfl (fun ht=> ?_) (fun ht=> ?_)|refine Ex.test (Rn.text ?_)|refine Ex.test (Rn.draw ?_)|refine ⟨_,rfl,fun ht=> ?_,fun ht=> ?_⟩|refine ⟨_,rfl,?_⟩|fail)
 all_goals first|(simp [*,b9,bT,lV];done)|(simp_all [b9,bT,lV];done)|(simp_all [b9,bT,lV,o9,o5,j5,A3];done)|(simp_all [b9,bT,lV,o9,o5,j5,A3]<;>omega)
def G6 (l r:List Int):List (Int×Int)->Int
 |[]=>0
 |p::ps=>if !n7 p.1 0 (l.length - 1)|| !n7 p.2 0 (r.length - 1) then 3 else if !o8 (nth l p.1.toNat) (nth r p.2.toNat) then 5 else G6 l r ps
theorem au0 (on:List (Int×Int))(l r:List Int)(h0:on.length<=1000)(h1:l.length<=100000)(h2:r.length<=100000):Pf A 99 [.d (y7 (fun p=>[num p.1,num p.2]) on),.d (ints l),.d (ints r)] (.d (num (G6 l r on))):=by
 refine Pf.run [.d (y7 (fun p=>[num p.1,num p.2]) on),.d (ints l),.d (ints r),.any,.any] rfl rfl rfl rfl ?_;refine gr ?_;refine Ex.I7 (fun k T H=>∃ (i:Nat) (v:b6),T=[.d (y7 (fun p=>[num p.1,num p.2]) on),.d (ints l),.d (ints r),v,.d (num i)]/\H=[]/\i+k=on.length/\G6 l r on=G6 l r (on.drop i)) (by rintro _ _ _ ⟨_,_,_,rfl,_⟩;rfl) ?_ (k:=on.length) ⟨0,_,rfl,rfl,by simp,by simp⟩;rintro k _ _ ⟨i,v,rfl,rfl,hk,hi⟩;refine Ex.nT ?_;refine Ex.seq ?_;refine tb (C2 i on.length) (fun h3=> ?_) (fun h3=> ?_)
 ·have h4:=z6 h3
  rw [A4 (by omega)] at hi;refine gr ?_;refine tB (!n7 (nth on i).1 0 (l.length - 1)|| !n7 (nth on i).2 0 (r.length - 1)) ?_ (fun h5=> ?_) (fun h5=> ?_)
  ·repeat' (first|refine cl (oB _ _ _) ?_|refine gx ?_|refine fk (h1:=fun hw=> ?_) (h2:=fun hw=> ?_)|refine M8 (h1:=fun hw=> ?_) (h2:=fun hw=> ?_)|refine ⟨rfl,rfl,_,rfl,?_⟩|refine ⟨rfl,rfl⟩|fail)
   all_goals exact cc
  ·refine gr ?_
   exact ⟨_,rfl,by simp only [b9,num,hi,G6,h5,if_true]⟩
  have h6:=h5;simp [n7,o5] at h6
  repeat' (first|refine gx ?_|refine Ex.J6 ?_|refine Ex.J8 ?_|refine Ex.cond rfl (fun ht=> ?_) (fun ht=> ?_)|refine Ex.test (Rn.text ?_)|refine Ex.test (Rn.draw ?_)|refine ⟨_,rfl,fun ht=> ?_,fun ht=> ?_⟩|refine ⟨_,rfl,?_⟩|fail)
  ·simp only [b9,num,hi,G6,h5,ht,b7,if_true,if_false]
  ·exact ⟨k - 1,by omega,i+1,_,rfl,rfl,by omega,by simp only [hi,G6,h5,ht,b7,if_false]⟩
 ·have h4:=z8 h3
  rw [m7 (by omega)] at hi;refine gr ?_;exact ⟨_,rfl,by simp [b9,hi,G6,num]⟩
end Go.Proofs.YtkmclibmmlgogaaGreat

