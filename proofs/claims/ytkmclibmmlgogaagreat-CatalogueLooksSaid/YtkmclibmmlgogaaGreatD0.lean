/- Texts D1 D2 D3 (made short by a program) -/
import Derived.Test.YtkmclibmmlgogaaGreatAbs
set_option linter.unusedVariables false
set_option linter.unusedSimpArgs false
open Bool renaming not_eq_false' → A7, not_eq_true' → j5
open List renaming drop_of_length_le → m6, take_of_length_le → q7
namespace Go.Proofs.YtkmclibmmlgogaaGreat
open Go.z7 Go.z7.S
attribute [local irreducible] Rx Ry Rn Ex Pf
def aZ (n:Int):Bool:=W6 97 n&&W6 n 122
def iN (n:Int):Bool:=W6 48 n&&W6 n 57
def kA (n:Int):Bool:=aZ n||iN n||o9 n 95
def E5:D6->Bool
 |[]=>false
 |c::r=>C7 r.length 16&&aZ c.toNat&&(c::r).all fun c=>kA c.toNat
theorem ab0 (n:Int):Pf A 93 [.d (.int .u8 n)] (.d (.bool (aZ n))):=by
 refine Pf.run [.d (.int .u8 n),.any] rfl rfl rfl rfl ?_
 repeat' (first|refine gx ?_|refine fk (h1:=fun hw=> ?_) (h2:=fun hw=> ?_)|refine L3 (h1:=fun hw=> ?_) (h2:=fun hw=> ?_)|refine Ex.I4 ?_|refine Ex.I6 ?_|refine Ex.cond rfl (fun ht=> ?_) (fun ht=> ?_)|refine Ex.test (Rn.text ?_)|refine Ex.test (Rn.draw ?_)|refine ⟨_,rfl,fun ht=> ?_,fun ht=> ?_⟩|refine ⟨_,rfl,?_⟩|fail)
 all_goals simp_all [b9,aZ]
theorem ZE (n:Int):Pf A 142 [.d (.int .u8 n)] (.d (.bool (iN n))):=by
 refine Pf.run [.d (.int .u8 n),.any] rfl rfl rfl rfl ?_
 repeat' (first|refine gx ?_|refine fk (h1:=fun hw=> ?_) (h2:=fun hw=> ?_)|refine L3 (h1:=fun hw=> ?_) (h2:=fun hw=> ?_)|refine Ex.I4 ?_|refine Ex.I6 ?_|refine Ex.cond rfl (fun ht=> ?_) (fun ht=> ?_)|refine Ex.test (Rn.text ?_)|refine Ex.test (Rn.draw ?_)|refine ⟨_,rfl,fun ht=> ?_,fun ht=> ?_⟩|refine ⟨_,rfl,?_⟩|fail)
 all_goals simp_all [b9,iN]
theorem aB6 (n:Int):Pf A 94 [.d (.int .u8 n)] (.d (.bool (kA n))):=by
 refine Pf.run [.d (.int .u8 n),.any] rfl rfl rfl rfl ?_
 repeat' (first|refine cl (ab0 _) ?_|refine cl (ZE _) ?_|refine gx ?_|refine fk (h1:=fun hw=> ?_) (h2:=fun hw=> ?_)|refine L3 (h1:=fun hw=> ?_) (h2:=fun hw=> ?_)|refine Ex.I4 ?_|refine Ex.I6 ?_|refine Ex.cond rfl (fun ht=> ?_) (fun ht=> ?_)|refine Ex.test (Rn.text ?_)|refine Ex.test (Rn.draw ?_)|refine ⟨_,rfl,fun ht=> ?_,fun ht=> ?_⟩|refine ⟨_,rfl,?_⟩|fail)
 all_goals simp_all [b9,kA]
theorem VB (s:D6):Pf A 64 [.d (.str s)] (.d (.bool (E5 s))):=by
 refine Pf.run [.d (.str s),.any,.any] rfl rfl rfl rfl ?_;refine gr ?_;refine Ex.OU (match s with|[]=>true|c::r=> !(C7 r.length 16&&aZ c.toNat)) (Rn.text ?_) (fun ht=> ?_) (fun ht=> ?_)
 ·repeat' (first|refine cl (ab0 _) ?_|refine gx ?_|refine fk (h1:=fun hw=> ?_) (h2:=fun hw=> ?_)|refine L3 (h1:=fun hw=> ?_) (h2:=fun hw=> ?_)|refine ⟨rfl,rfl,_,rfl,?_⟩|refine ⟨rfl,rfl⟩|fail)
  all_goals cases s
  all_goals first|(simp [*,b9,T9];done)|(simp_all [b9,T9];done)|(simp_all [b9,T9,p8,p5,j9,B7];done)|(simp_all [b9,T9,p8,p5,j9,B7]<;>omega)
 ·refine gr ?_
  refine ⟨_,rfl,?_⟩;cases s with
  |nil=>rfl
  |cons c r =>
   simp only [j5] at ht;simp only [E5,ht,b9,Bool.false_and]
 ·cases s with
  |nil=>cases ht
  |cons c r =>
  have hl:=ht;simp [p8] at hl;have hb:(c::r).length<=16:=by simp;omega
  refine gr ?_;refine Ex.J1 (fun k T H=>∃ (i:Nat) (v:b6),T=[.d (.str (c::r)),v,.d (.int .i64 i)]/\H=[]/\i+k=(c::r).length/\E5 (c::r)=((c::r).drop i).all fun c=>kA c.toNat) (by rintro _ _ _ ⟨_,_,_,rfl,_⟩;rfl) ?_ (k:=(c::r).length) ⟨0,_,rfl,rfl,by simp,by simp [E5,hl,p8]⟩;rintro k _ _ ⟨i,v,rfl,rfl,hk,hi⟩;refine Ex.nT ?_
  repeat' (first|refine cl (aB6 _) ?_|refine gx ?_|refine Ex.I4 ?_|refine Ex.I6 ?_|refine Ex.cond rfl (fun ht=> ?_) (fun ht=> ?_)|refine Ex.test (Rn.text ?_)|refine Ex.test (Rn.draw ?_)|refine ⟨_,rfl,fun ht=> ?_,fun ht=> ?_⟩|refine ⟨_,rfl,?_⟩|fail)
  ·simp only [j5] at ht
   simp only [b9];have h1:=A4 ‹_›;rw [hi,A8 (by omega)];simp [ht]
  ·have h1:=A4 ‹_›
   rw [A8 (by omega)] at hi;simp only [A7] at ht;refine ⟨k - 1,by omega,i+1,_,rfl,rfl,by omega,?_⟩;rw [hi];simp [ht]
  ·have h1:=z8 ‹_›
   rw [m6 (by omega)] at hi;simp [hi,b9]
theorem pg (n a b:Int):Pf A 95 [.d (num n),.d (num a),.d (num b)] (.d (.bool (n8 n a b))):=by
 refine Pf.run [.d (num n),.d (num a),.d (num b),.any] rfl rfl rfl rfl ?_
 repeat' (first|refine gx ?_|refine fk (h1:=fun hw=> ?_) (h2:=fun hw=> ?_)|refine L3 (h1:=fun hw=> ?_) (h2:=fun hw=> ?_)|refine Ex.I4 ?_|refine Ex.I6 ?_|refine Ex.cond rfl (fun ht=> ?_) (fun ht=> ?_)|refine Ex.test (Rn.text ?_)|refine Ex.test (Rn.draw ?_)|refine ⟨_,rfl,fun ht=> ?_,fun ht=> ?_⟩|refine ⟨_,rfl,?_⟩|fail)
 all_goals first|(simp [*,b9,n8];done)|(simp_all [b9,n8];done)|(simp_all [b9,n8,p8,p5,j9,B7];done)|(simp_all [b9,n8,p8,p5,j9,B7]<;>omega)
theorem bM (n a b:Int):Pf A 109 [.d (num n),.d (num a),.d (num b)] (.d (.bool (n8 n a b))):=by
 refine Pf.run [.d (num n),.d (num a),.d (num b),.any] rfl rfl rfl rfl ?_
 repeat' (first|refine gx ?_|refine fk (h1:=fun hw=> ?_) (h2:=fun hw=> ?_)|refine L3 (h1:=fun hw=> ?_) (h2:=fun hw=> ?_)|refine Ex.I4 ?_|refine Ex.I6 ?_|refine Ex.cond rfl (fun ht=> ?_) (fun ht=> ?_)|refine Ex.test (Rn.text ?_)|refine Ex.test (Rn.draw ?_)|refine ⟨_,rfl,fun ht=> ?_,fun ht=> ?_⟩|refine ⟨_,rfl,?_⟩|fail)
 all_goals first|(simp [*,b9,n8];done)|(simp_all [b9,n8];done)|(simp_all [b9,n8,p8,p5,j9,B7];done)|(simp_all [b9,n8,p8,p5,j9,B7]<;>omega)
theorem Ty (n:Int):Pf A 149 [.d (num n)] (.d (.bool (o9 n 1||o9 n 2))):=by
 refine Pf.run [.d (num n),.any] rfl rfl rfl rfl ?_
 repeat' (first|refine gx ?_|refine fk (h1:=fun hw=> ?_) (h2:=fun hw=> ?_)|refine L3 (h1:=fun hw=> ?_) (h2:=fun hw=> ?_)|refine Ex.I4 ?_|refine Ex.I6 ?_|refine Ex.cond rfl (fun ht=> ?_) (fun ht=> ?_)|refine Ex.test (Rn.text ?_)|refine Ex.test (Rn.draw ?_)|refine ⟨_,rfl,fun ht=> ?_,fun ht=> ?_⟩|refine ⟨_,rfl,?_⟩|fail)
 all_goals exact cc
def ints (l:List Int):z7.Data:=A5 (fun n=>[num n]) l
def tY (l:List D6):z7.Data:=A5 (fun s=>[.str s]) l
def hasB (l:List Int)(n:Int):Bool:=l.any fun x=>o9 x n
theorem aa9 (xs:List Int)(n:Int)(hx:xs.length<=1000):Pf A 89 [.d (ints xs),.d (num n)] (.d (.bool (hasB xs n))):=by
 refine Pf.run [.d (ints xs),.d (num n),.any,.any] rfl rfl rfl rfl ?_;refine gr ?_;refine Ex.J1 (fun k T H=>∃ (i:Nat) (v:b6),T=[.d (ints xs),.d (num n),v,.d (num i)]/\H=[]/\i+k=xs.length/\hasB xs n=(xs.drop i).any fun x=>o9 x n) (by rintro _ _ _ ⟨_,_,_,rfl,_⟩;rfl) ?_ (k:=xs.length) ⟨0,_,rfl,rfl,by simp,by simp [hasB]⟩;rintro k _ _ ⟨i,v,rfl,rfl,hk,hi⟩;refine Ex.nT ?_
 repeat' (first|refine gx ?_|refine Ex.I4 ?_|refine Ex.I6 ?_|refine Ex.cond rfl (fun ht=> ?_) (fun ht=> ?_)|refine Ex.test (Rn.text ?_)|refine Ex.test (Rn.draw ?_)|refine ⟨_,rfl,fun ht=> ?_,fun ht=> ?_⟩|refine ⟨_,rfl,?_⟩|fail)
 ·have h1:=A4 ‹C7 i _=true›
  rw [A8 (by omega)] at hi;simp [hi,ht,b9]
 ·have h1:=A4 ‹C7 i _=true›
  rw [A8 (by omega)] at hi;exact ⟨k - 1,by omega,i+1,_,rfl,rfl,by omega,by simp [hi,ht]⟩
 ·have h1:=z8 ht
  rw [m6 (by omega)] at hi;simp [hi,b9]
def U3 {α:Type}(eq:α->α->Bool):List α->List α->Bool
 |[],[]=>true
 |a::l,c::m=>eq a c&&U3 eq l m
 |_,_=>false
theorem jB {α:Type}{eq:α->α->Bool}:∀ {l m:List α},l.length≠m.length->U3 eq l m=false
 |[],[],h=>absurd rfl h
 |[],_::_,_=>rfl
 |_::_,[],_=>rfl
 |a::l,c::m,h=>by simp only [U3,jB (l:=l) (m:=m) (by simpa using h),Bool.and_false]
theorem aB9 (xs ys:List Int)(hx:xs.length<=100000):Pf A 98 [.d (ints xs),.d (ints ys)] (.d (.bool (U3 o9 xs ys))):=by
 refine Pf.run [.d (ints xs),.d (ints ys),.any,.any] rfl rfl rfl rfl ?_
 repeat' (first|refine gx ?_|refine Ex.I4 ?_|refine Ex.I6 ?_|refine Ex.cond rfl (fun ht=> ?_) (fun ht=> ?_)|refine Ex.test (Rn.text ?_)|refine Ex.test (Rn.draw ?_)|refine ⟨_,rfl,fun ht=> ?_,fun ht=> ?_⟩|refine ⟨_,rfl,?_⟩|fail)
 ·have h1:xs.length≠ys.length:=by simp [j9] at ht;omega
  simp [jB h1,b9]
 have hl:xs.length=ys.length:=by simp [j9] at ht;omega
 refine Ex.J1 (fun k T H=>∃ (i:Nat) (v:b6),T=[.d (ints xs),.d (ints ys),v,.d (num i)]/\H=[]/\i+k=xs.length/\U3 o9 xs ys=U3 o9 (xs.drop i) (ys.drop i)) (by rintro _ _ _ ⟨_,_,_,rfl,_⟩;rfl) ?_ (k:=xs.length) ⟨0,_,rfl,rfl,by simp,by simp⟩;rintro k _ _ ⟨i,v,rfl,rfl,hk,hi⟩;refine Ex.nT ?_
 repeat' (first|refine gx ?_|refine Ex.I4 ?_|refine Ex.I6 ?_|refine Ex.cond rfl (fun ht=> ?_) (fun ht=> ?_)|refine Ex.test (Rn.text ?_)|refine Ex.test (Rn.draw ?_)|refine ⟨_,rfl,fun ht=> ?_,fun ht=> ?_⟩|refine ⟨_,rfl,?_⟩|fail)
 ·have h1:=A4 ‹C7 i _=true›
  rw [A8 (by omega),A8 (l:=ys) (by omega)] at hi;simp only [j5] at ht;simp [hi,U3,ht,b9]
 ·have h1:=A4 ‹C7 i _=true›
  rw [A8 (by omega),A8 (l:=ys) (by omega)] at hi;simp only [A7] at ht;exact ⟨k - 1,by omega,i+1,_,rfl,rfl,by omega,by simp [hi,U3,ht]⟩
 ·have h1:=z8 ht
  rw [m6 (by omega),m6 (by omega)] at hi;simp [hi,U3,b9]
theorem aA9 (xs ys:List Int)(hx:xs.length<=100000):Pf A 31 [.d (ints xs),.d (ints ys)] (.d (.bool (U3 o9 xs ys))):=by
 refine Pf.run [.d (ints xs),.d (ints ys),.any,.any] rfl rfl rfl rfl ?_
 repeat' (first|refine gx ?_|refine Ex.I4 ?_|refine Ex.I6 ?_|refine Ex.cond rfl (fun ht=> ?_) (fun ht=> ?_)|refine Ex.test (Rn.text ?_)|refine Ex.test (Rn.draw ?_)|refine ⟨_,rfl,fun ht=> ?_,fun ht=> ?_⟩|refine ⟨_,rfl,?_⟩|fail)
 ·have h1:xs.length≠ys.length:=by simp [j9] at ht;omega
  simp [jB h1,b9]
 have hl:xs.length=ys.length:=by simp [j9] at ht;omega
 refine Ex.J1 (fun k T H=>∃ (i:Nat) (v:b6),T=[.d (ints xs),.d (ints ys),v,.d (num i)]/\H=[]/\i+k=xs.length/\U3 o9 xs ys=U3 o9 (xs.drop i) (ys.drop i)) (by rintro _ _ _ ⟨_,_,_,rfl,_⟩;rfl) ?_ (k:=xs.length) ⟨0,_,rfl,rfl,by simp,by simp⟩;rintro k _ _ ⟨i,v,rfl,rfl,hk,hi⟩;refine Ex.nT ?_
 repeat' (first|refine gx ?_|refine Ex.I4 ?_|refine Ex.I6 ?_|refine Ex.cond rfl (fun ht=> ?_) (fun ht=> ?_)|refine Ex.test (Rn.text ?_)|refine Ex.test (Rn.draw ?_)|refine ⟨_,rfl,fun ht=> ?_,fun ht=> ?_⟩|refine ⟨_,rfl,?_⟩|fail)
 ·have h1:=A4 ‹C7 i _=true›
  rw [A8 (by omega),A8 (l:=ys) (by omega)] at hi;simp only [j5] at ht;simp [hi,U3,ht,b9]
 ·have h1:=A4 ‹C7 i _=true›
  rw [A8 (by omega),A8 (l:=ys) (by omega)] at hi;simp only [A7] at ht;exact ⟨k - 1,by omega,i+1,_,rfl,rfl,by omega,by simp [hi,U3,ht]⟩
 ·have h1:=z8 ht
  rw [m6 (by omega),m6 (by omega)] at hi;simp [hi,U3,b9]
theorem aB1 (xs ys:List D6)(hx:xs.length<=100000):Pf A 52 [.d (tY xs),.d (tY ys)] (.d (.bool (U3 J4 xs ys))):=by
 refine Pf.run [.d (tY xs),.d (tY ys),.any,.any] rfl rfl rfl rfl ?_
 repeat' (first|refine gx ?_|refine Ex.I4 ?_|refine Ex.I6 ?_|refine Ex.cond rfl (fun ht=> ?_) (fun ht=> ?_)|refine Ex.test (Rn.text ?_)|refine Ex.test (Rn.draw ?_)|refine ⟨_,rfl,fun ht=> ?_,fun ht=> ?_⟩|refine ⟨_,rfl,?_⟩|fail)
 ·have h1:xs.length≠ys.length:=by simp [j9] at ht;omega
  simp [jB h1,b9]
 have hl:xs.length=ys.length:=by simp [j9] at ht;omega
 refine Ex.J1 (fun k T H=>∃ (i:Nat) (v:b6),T=[.d (tY xs),.d (tY ys),v,.d (num i)]/\H=[]/\i+k=xs.length/\U3 J4 xs ys=U3 J4 (xs.drop i) (ys.drop i)) (by rintro _ _ _ ⟨_,_,_,rfl,_⟩;rfl) ?_ (k:=xs.length) ⟨0,_,rfl,rfl,by simp,by simp⟩;rintro k _ _ ⟨i,v,rfl,rfl,hk,hi⟩;refine Ex.nT ?_
 repeat' (first|refine gx ?_|refine Ex.I4 ?_|refine Ex.I6 ?_|refine Ex.cond rfl (fun ht=> ?_) (fun ht=> ?_)|refine Ex.test (Rn.text ?_)|refine Ex.test (Rn.draw ?_)|refine ⟨_,rfl,fun ht=> ?_,fun ht=> ?_⟩|refine ⟨_,rfl,?_⟩|fail)
 ·have h1:=A4 ‹C7 i _=true›
  rw [A8 (by omega),A8 (l:=ys) (by omega)] at hi;simp only [j5] at ht;simp [hi,U3,ht,b9]
 ·have h1:=A4 ‹C7 i _=true›
  rw [A8 (by omega),A8 (l:=ys) (by omega)] at hi;simp only [A7] at ht;exact ⟨k - 1,by omega,i+1,_,rfl,rfl,by omega,by simp [hi,U3,ht]⟩
 ·have h1:=z8 ht
  rw [m6 (by omega),m6 (by omega)] at hi;simp [hi,U3,b9]
theorem Tv (xs ys:List Int)(hx:xs.length<=100000):Pf A 117 [.d (ints xs),.d (ints ys)] (.d (.bool (U3 o9 xs ys))):=by
 refine Pf.run [.d (ints xs),.d (ints ys),.any,.any,.any,.any] rfl rfl rfl rfl ?_
 repeat' (first|refine gx ?_|refine Ex.I4 ?_|refine Ex.I6 ?_|refine Ex.cond rfl (fun ht=> ?_) (fun ht=> ?_)|refine Ex.test (Rn.text ?_)|refine Ex.test (Rn.draw ?_)|refine ⟨_,rfl,fun ht=> ?_,fun ht=> ?_⟩|refine ⟨_,rfl,?_⟩|fail)
 ·have h1:xs.length≠ys.length:=by simp [j9] at ht;omega
  simp [jB h1,b9]
 have hl:xs.length=ys.length:=by simp [j9] at ht;omega
 refine Ex.J1 (fun k T H=>∃ (i:Nat) (v w:b6),T=[.d (ints xs),.d (ints ys),v,w,.d (num xs.length),.d (num i)]/\H=[]/\i+k=xs.length/\U3 o9 xs ys=U3 o9 (xs.drop i) (ys.drop i)) (by rintro _ _ _ ⟨_,_,_,_,rfl,_⟩;rfl) ?_ (k:=xs.length) ⟨0,_,_,rfl,rfl,by simp,by simp⟩;rintro k _ _ ⟨i,v,w,rfl,rfl,hk,hi⟩;refine Ex.nT ?_
 repeat' (first|refine gx ?_|refine Ex.I4 ?_|refine Ex.I6 ?_|refine Ex.cond rfl (fun ht=> ?_) (fun ht=> ?_)|refine Ex.test (Rn.text ?_)|refine Ex.test (Rn.draw ?_)|refine ⟨_,rfl,fun ht=> ?_,fun ht=> ?_⟩|refine ⟨_,rfl,?_⟩|fail)
 ·have h1:=A4 ‹C7 i _=true›
  rw [A8 (by omega),A8 (l:=ys) (by omega)] at hi;simp only [j5] at ht;simp [hi,U3,ht,b9]
 ·have h1:=A4 ‹C7 i _=true›
  rw [A8 (by omega),A8 (l:=ys) (by omega)] at hi;simp only [A7] at ht;exact ⟨k - 1,by omega,i+1,_,_,rfl,rfl,by omega,by simp [hi,U3,ht]⟩
 ·have h1:=z8 ht
  rw [m6 (by omega),m6 (by omega)] at hi;simp [hi,U3,b9]
def encS (s:D6):List z7.Data:=[.str s]
set_option maxHeartbeats 4000000 in
theorem aa8 (c:n5)(hf:c.fq):Pf A 63 [cat c] (.d (A5 encS c.names)):=by
 obtain ⟨f0,f1,f2,f3,f4,f5,f6,f7⟩:=hf;refine Pf.run [cat c,.any,.any,.any,.any,.any,.any,.any,.any,.any,.any,.any] rfl rfl rfl rfl ?_;refine gr ?_;refine Ex.J1 (fun k T H=>∃ (i:Nat) (acc:List D6) (v0 v2 w5 w6 w7 w8 w9 jI gG:b6),T=[v0,.ptr 0 0,v2,B4 1 encS acc,.d (num i),w5,w6,w7,w8,w9,jI,gG]/\H=[.cells (c.enc.map .d)]/\i+k=c.j3.length/\acc=([]:List D6)++(c.j3.take i).map fu.name) (by rintro _ _ _ ⟨_,_,_,_,_,_,_,_,_,_,_,_,rfl,_⟩;rfl) ?_ (k:=c.j3.length) ⟨0,([]:List D6),_,_,_,_,_,_,_,_,_,rfl,rfl,by simp,by simp⟩;rintro k _ _ ⟨i,acc,v0,v2,w5,w6,w7,w8,w9,jI,gG,rfl,rfl,hk,hacc⟩;have hl:acc.length=0+i:=by rw [hacc];simp;omega
 refine Ex.nT ?_
 repeat' (first|refine gx ?_|refine Ex.I4 ?_|refine Ex.I6 ?_|refine Ex.cond rfl (fun ht=> ?_) (fun ht=> ?_)|refine Ex.test (Rn.text ?_)|refine Ex.test (Rn.draw ?_)|refine ⟨_,rfl,fun ht=> ?_,fun ht=> ?_⟩|refine ⟨_,rfl,?_⟩|fail)
 ·have h1:=A4 ht
  refine ⟨k - 1,by omega,i+1,acc++[(nth c.j3 i).name],_,_,_,_,_,_,_,_,_,rfl,rfl,by omega,?_⟩;rw [F6 (by omega),hacc];simp
 have h1:=z8 ht;rw [q7 (by omega)] at hacc;clear ht h1 hk hl;subst hacc;refine Ex.J1 (fun k T H=>∃ (i:Nat) (acc:List D6) (v0 v2 w4 w6 w7 w8 w9 jI gG:b6),T=[v0,.ptr 0 0,v2,B4 1 encS acc,w4,.d (num i),w6,w7,w8,w9,jI,gG]/\H=[.cells (c.enc.map .d)]/\i+k=c.views.length/\acc=c.j3.map fu.name++(c.views.take i).map Vw.name) (by rintro _ _ _ ⟨_,_,_,_,_,_,_,_,_,_,_,_,rfl,_⟩;rfl) ?_ (k:=c.views.length) ⟨0,c.j3.map fu.name,_,_,_,_,_,_,_,_,_,rfl,rfl,by simp,by simp⟩;rintro k _ _ ⟨i,acc,v0,v2,w4,w6,w7,w8,w9,jI,gG,rfl,rfl,hk,hacc⟩;have hl:acc.length=0+c.j3.length+i:=by rw [hacc];simp;omega
 refine Ex.nT ?_
 repeat' (first|refine gx ?_|refine Ex.I4 ?_|refine Ex.I6 ?_|refine Ex.cond rfl (fun ht=> ?_) (fun ht=> ?_)|refine Ex.test (Rn.text ?_)|refine Ex.test (Rn.draw ?_)|refine ⟨_,rfl,fun ht=> ?_,fun ht=> ?_⟩|refine ⟨_,rfl,?_⟩|fail)
 ·have h1:=A4 ht
  refine ⟨k - 1,by omega,i+1,acc++[(nth c.views i).name],_,_,_,_,_,_,_,_,_,rfl,rfl,by omega,?_⟩;rw [F6 (by omega),hacc];simp
 have h1:=z8 ht;rw [q7 (by omega)] at hacc;clear ht h1 hk hl;subst hacc;refine Ex.J1 (fun k T H=>∃ (i:Nat) (acc:List D6) (v0 v2 w4 w5 w7 w8 w9 jI gG:b6),T=[v0,.ptr 0 0,v2,B4 1 encS acc,w4,w5,.d (num i),w7,w8,w9,jI,gG]/\H=[.cells (c.enc.map .d)]/\i+k=c.idxs.length/\acc=c.j3.map fu.name++c.views.map Vw.name++(c.idxs.take i).map iW.name) (by rintro _ _ _ ⟨_,_,_,_,_,_,_,_,_,_,_,_,rfl,_⟩;rfl) ?_ (k:=c.idxs.length) ⟨0,c.j3.map fu.name++c.views.map Vw.name,_,_,_,_,_,_,_,_,_,rfl,rfl,by simp,by simp⟩;rintro k _ _ ⟨i,acc,v0,v2,w4,w5,w7,w8,w9,jI,gG,rfl,rfl,hk,hacc⟩;have hl:acc.length=0+c.j3.length+c.views.length+i:=by rw [hacc];simp;omega
 refine Ex.nT ?_
 repeat' (first|refine gx ?_|refine Ex.I4 ?_|refine Ex.I6 ?_|refine Ex.cond rfl (fun ht=> ?_) (fun ht=> ?_)|refine Ex.test (Rn.text ?_)|refine Ex.test (Rn.draw ?_)|refine ⟨_,rfl,fun ht=> ?_,fun ht=> ?_⟩|refine ⟨_,rfl,?_⟩|fail)
 ·have h1:=A4 ht
  refine ⟨k - 1,by omega,i+1,acc++[(nth c.idxs i).name],_,_,_,_,_,_,_,_,_,rfl,rfl,by omega,?_⟩;rw [F6 (by omega),hacc];simp
 have h1:=z8 ht;rw [q7 (by omega)] at hacc;clear ht h1 hk hl;subst hacc;refine Ex.J1 (fun k T H=>∃ (i:Nat) (acc:List D6) (v0 v2 w4 w5 w6 w8 w9 jI gG:b6),T=[v0,.ptr 0 0,v2,B4 1 encS acc,w4,w5,w6,.d (num i),w8,w9,jI,gG]/\H=[.cells (c.enc.map .d)]/\i+k=c.F3.length/\acc=c.j3.map fu.name++c.views.map Vw.name++c.idxs.map iW.name++(c.F3.take i).map iK.name) (by rintro _ _ _ ⟨_,_,_,_,_,_,_,_,_,_,_,_,rfl,_⟩;rfl) ?_ (k:=c.F3.length) ⟨0,c.j3.map fu.name++c.views.map Vw.name++c.idxs.map iW.name,_,_,_,_,_,_,_,_,_,rfl,rfl,by simp,by simp⟩;rintro k _ _ ⟨i,acc,v0,v2,w4,w5,w6,w8,w9,jI,gG,rfl,rfl,hk,hacc⟩;have hl:acc.length=0+c.j3.length+c.views.length+c.idxs.length+i:=by rw [hacc];simp;omega
 refine Ex.nT ?_
 repeat' (first|refine gx ?_|refine Ex.I4 ?_|refine Ex.I6 ?_|refine Ex.cond rfl (fun ht=> ?_) (fun ht=> ?_)|refine Ex.test (Rn.text ?_)|refine Ex.test (Rn.draw ?_)|refine ⟨_,rfl,fun ht=> ?_,fun ht=> ?_⟩|refine ⟨_,rfl,?_⟩|fail)
 ·have h1:=A4 ht
  refine ⟨k - 1,by omega,i+1,acc++[(nth c.F3 i).name],_,_,_,_,_,_,_,_,_,rfl,rfl,by omega,?_⟩;rw [F6 (by omega),hacc];simp
 have h1:=z8 ht;rw [q7 (by omega)] at hacc;clear ht h1 hk hl;subst hacc;refine Ex.J1 (fun k T H=>∃ (i:Nat) (acc:List D6) (v0 v2 w4 w5 w6 w7 w9 jI gG:b6),T=[v0,.ptr 0 0,v2,B4 1 encS acc,w4,w5,w6,w7,.d (num i),w9,jI,gG]/\H=[.cells (c.enc.map .d)]/\i+k=c.F9.length/\acc=c.j3.map fu.name++c.views.map Vw.name++c.idxs.map iW.name++c.F3.map iK.name++(c.F9.take i).map kP.name) (by rintro _ _ _ ⟨_,_,_,_,_,_,_,_,_,_,_,_,rfl,_⟩;rfl) ?_ (k:=c.F9.length) ⟨0,c.j3.map fu.name++c.views.map Vw.name++c.idxs.map iW.name++c.F3.map iK.name,_,_,_,_,_,_,_,_,_,rfl,rfl,by simp,by simp⟩;rintro k _ _ ⟨i,acc,v0,v2,w4,w5,w6,w7,w9,jI,gG,rfl,rfl,hk,hacc⟩;have hl:acc.length=0+c.j3.length+c.views.length+c.idxs.length+c.F3.length+i:=by rw [hacc];simp;omega
 refine Ex.nT ?_
 repeat' (first|refine gx ?_|refine Ex.I4 ?_|refine Ex.I6 ?_|refine Ex.cond rfl (fun ht=> ?_) (fun ht=> ?_)|refine Ex.test (Rn.text ?_)|refine Ex.test (Rn.draw ?_)|refine ⟨_,rfl,fun ht=> ?_,fun ht=> ?_⟩|refine ⟨_,rfl,?_⟩|fail)
 ·have h1:=A4 ht
  refine ⟨k - 1,by omega,i+1,acc++[(nth c.F9 i).name],_,_,_,_,_,_,_,_,_,rfl,rfl,by omega,?_⟩;rw [F6 (by omega),hacc];simp
 have h1:=z8 ht;rw [q7 (by omega)] at hacc;clear ht h1 hk hl;subst hacc;refine Ex.J1 (fun k T H=>∃ (i:Nat) (acc:List D6) (v0 v2 w4 w5 w6 w7 w8 jI gG:b6),T=[v0,.ptr 0 0,v2,B4 1 encS acc,w4,w5,w6,w7,w8,.d (num i),jI,gG]/\H=[.cells (c.enc.map .d)]/\i+k=c.J3.length/\acc=c.j3.map fu.name++c.views.map Vw.name++c.idxs.map iW.name++c.F3.map iK.name++c.F9.map kP.name++(c.J3.take i).map jV.name) (by rintro _ _ _ ⟨_,_,_,_,_,_,_,_,_,_,_,_,rfl,_⟩;rfl) ?_ (k:=c.J3.length) ⟨0,c.j3.map fu.name++c.views.map Vw.name++c.idxs.map iW.name++c.F3.map iK.name++c.F9.map kP.name,_,_,_,_,_,_,_,_,_,rfl,rfl,by simp,by simp⟩;rintro k _ _ ⟨i,acc,v0,v2,w4,w5,w6,w7,w8,jI,gG,rfl,rfl,hk,hacc⟩;have hl:acc.length=0+c.j3.length+c.views.length+c.idxs.length+c.F3.length+c.F9.length+i:=by rw [hacc];simp;omega
 refine Ex.nT ?_
 repeat' (first|refine gx ?_|refine Ex.I4 ?_|refine Ex.I6 ?_|refine Ex.cond rfl (fun ht=> ?_) (fun ht=> ?_)|refine Ex.test (Rn.text ?_)|refine Ex.test (Rn.draw ?_)|refine ⟨_,rfl,fun ht=> ?_,fun ht=> ?_⟩|refine ⟨_,rfl,?_⟩|fail)
 ·have h1:=A4 ht
  refine ⟨k - 1,by omega,i+1,acc++[(nth c.J3 i).name],_,_,_,_,_,_,_,_,_,rfl,rfl,by omega,?_⟩;rw [F6 (by omega),hacc];simp
 have h1:=z8 ht;rw [q7 (by omega)] at hacc;clear ht h1 hk hl;subst hacc;refine Ex.J1 (fun k T H=>∃ (i:Nat) (acc:List D6) (v0 v2 w4 w5 w6 w7 w8 w9 gG:b6),T=[v0,.ptr 0 0,v2,B4 1 encS acc,w4,w5,w6,w7,w8,w9,.d (num i),gG]/\H=[.cells (c.enc.map .d)]/\i+k=c.K9.length/\acc=c.j3.map fu.name++c.views.map Vw.name++c.idxs.map iW.name++c.F3.map iK.name++c.F9.map kP.name++c.J3.map jV.name++(c.K9.take i).map nq.name) (by rintro _ _ _ ⟨_,_,_,_,_,_,_,_,_,_,_,_,rfl,_⟩;rfl) ?_ (k:=c.K9.length) ⟨0,c.j3.map fu.name++c.views.map Vw.name++c.idxs.map iW.name++c.F3.map iK.name++c.F9.map kP.name++c.J3.map jV.name,_,_,_,_,_,_,_,_,_,rfl,rfl,by simp,by simp⟩;rintro k _ _ ⟨i,acc,v0,v2,w4,w5,w6,w7,w8,w9,gG,rfl,rfl,hk,hacc⟩;have hl:acc.length=0+c.j3.length+c.views.length+c.idxs.length+c.F3.length+c.F9.length+c.J3.length+i:=by rw [hacc];simp;omega
 refine Ex.nT ?_
 repeat' (first|refine gx ?_|refine Ex.I4 ?_|refine Ex.I6 ?_|refine Ex.cond rfl (fun ht=> ?_) (fun ht=> ?_)|refine Ex.test (Rn.text ?_)|refine Ex.test (Rn.draw ?_)|refine ⟨_,rfl,fun ht=> ?_,fun ht=> ?_⟩|refine ⟨_,rfl,?_⟩|fail)
 ·have h1:=A4 ht
  refine ⟨k - 1,by omega,i+1,acc++[(nth c.K9 i).name],_,_,_,_,_,_,_,_,_,rfl,rfl,by omega,?_⟩;rw [F6 (by omega),hacc];simp
 have h1:=z8 ht;rw [q7 (by omega)] at hacc;clear ht h1 hk hl;subst hacc;refine Ex.J1 (fun k T H=>∃ (i:Nat) (acc:List D6) (v0 v2 w4 w5 w6 w7 w8 w9 jI:b6),T=[v0,.ptr 0 0,v2,B4 1 encS acc,w4,w5,w6,w7,w8,w9,jI,.d (num i)]/\H=[.cells (c.enc.map .d)]/\i+k=c.M8.length/\acc=c.j3.map fu.name++c.views.map Vw.name++c.idxs.map iW.name++c.F3.map iK.name++c.F9.map kP.name++c.J3.map jV.name++c.K9.map nq.name++(c.M8.take i).map nj.name) (by rintro _ _ _ ⟨_,_,_,_,_,_,_,_,_,_,_,_,rfl,_⟩;rfl) ?_ (k:=c.M8.length) ⟨0,c.j3.map fu.name++c.views.map Vw.name++c.idxs.map iW.name++c.F3.map iK.name++c.F9.map kP.name++c.J3.map jV.name++c.K9.map nq.name,_,_,_,_,_,_,_,_,_,rfl,rfl,by simp,by simp⟩;rintro k _ _ ⟨i,acc,v0,v2,w4,w5,w6,w7,w8,w9,jI,rfl,rfl,hk,hacc⟩;have hl:acc.length=0+c.j3.length+c.views.length+c.idxs.length+c.F3.length+c.F9.length+c.J3.length+c.K9.length+i:=by rw [hacc];simp;omega
 refine Ex.nT ?_
 repeat' (first|refine gx ?_|refine Ex.I4 ?_|refine Ex.I6 ?_|refine Ex.cond rfl (fun ht=> ?_) (fun ht=> ?_)|refine Ex.test (Rn.text ?_)|refine Ex.test (Rn.draw ?_)|refine ⟨_,rfl,fun ht=> ?_,fun ht=> ?_⟩|refine ⟨_,rfl,?_⟩|fail)
 ·have h1:=A4 ht
  refine ⟨k - 1,by omega,i+1,acc++[(nth c.M8 i).name],_,_,_,_,_,_,_,_,_,rfl,rfl,by omega,?_⟩;rw [F6 (by omega),hacc];simp
 have h1:=z8 ht;rw [q7 (by omega)] at hacc;clear ht h1 hk hl;subst hacc;simp [b9,A5,B4,n5.names]
end Go.Proofs.YtkmclibmmlgogaaGreat

