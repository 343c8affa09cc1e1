/- Texts D1 D2 D3 (made short by a program) -/
import Derived.Test.YtkmclibmmlgogaaGreatAbt
set_option linter.unusedVariables false
set_option linter.unusedSimpArgs false
open Bool renaming not_eq_false' → A9, not_eq_true' → j5
open List renaming drop_of_length_le → k9, take_of_length_le → q5
namespace Go.Proofs.YtkmclibmmlgogaaGreat
open Go.y3 Go.y3.S
attribute [local irreducible] Rx Ry Rn Ex Pf
def bz (n:Int):Bool:=W8 97 n&&W8 n 122
def jf (n:Int):Bool:=W8 48 n&&W8 n 57
def kK (n:Int):Bool:=bz n||jf n||o9 n 95
def E3:D8->Bool
 |[]=>false
 |c::r=>C9 r.length 16&&bz c.toNat&&(c::r).all fun c=>kK c.toNat
theorem an4 (n:Int):Pf A 93 [.d (.int .u8 n)] (.d (.bool (bz n))):=by
 refine Pf.run [.d (.int .u8 n),.any] rfl rfl rfl rfl ?_
 repeat' (first|refine gx ?_|refine fk (h1:=fun hw=> ?_) (h2:=fun hw=> ?_)|refine L7 (h1:=fun hw=> ?_) (h2:=fun hw=> ?_)|refine Ex.H7 ?_|refine Ex.H8 ?_|refine Ex.cond rfl (fun ht=> ?_) (fun ht=> ?_)|refine Ex.test (Rn.text ?_)|refine Ex.test (Rn.draw ?_)|refine ⟨_,rfl,fun ht=> ?_,fun ht=> ?_⟩|refine ⟨_,rfl,?_⟩|fail)
 all_goals simp_all [b8,bz]
theorem ak2 (n:Int):Pf A 142 [.d (.int .u8 n)] (.d (.bool (jf n))):=by
 refine Pf.run [.d (.int .u8 n),.any] rfl rfl rfl rfl ?_
 repeat' (first|refine gx ?_|refine fk (h1:=fun hw=> ?_) (h2:=fun hw=> ?_)|refine L7 (h1:=fun hw=> ?_) (h2:=fun hw=> ?_)|refine Ex.H7 ?_|refine Ex.H8 ?_|refine Ex.cond rfl (fun ht=> ?_) (fun ht=> ?_)|refine Ex.test (Rn.text ?_)|refine Ex.test (Rn.draw ?_)|refine ⟨_,rfl,fun ht=> ?_,fun ht=> ?_⟩|refine ⟨_,rfl,?_⟩|fail)
 all_goals simp_all [b8,jf]
theorem aO3 (n:Int):Pf A 94 [.d (.int .u8 n)] (.d (.bool (kK n))):=by
 refine Pf.run [.d (.int .u8 n),.any] rfl rfl rfl rfl ?_
 repeat' (first|refine cl (an4 _) ?_|refine cl (ak2 _) ?_|refine gx ?_|refine fk (h1:=fun hw=> ?_) (h2:=fun hw=> ?_)|refine L7 (h1:=fun hw=> ?_) (h2:=fun hw=> ?_)|refine Ex.H7 ?_|refine Ex.H8 ?_|refine Ex.cond rfl (fun ht=> ?_) (fun ht=> ?_)|refine Ex.test (Rn.text ?_)|refine Ex.test (Rn.draw ?_)|refine ⟨_,rfl,fun ht=> ?_,fun ht=> ?_⟩|refine ⟨_,rfl,?_⟩|fail)
 all_goals simp_all [b8,kK]
theorem XV (s:D8):Pf A 64 [.d (.str s)] (.d (.bool (E3 s))):=by
 refine Pf.run [.d (.str s),.any,.any] rfl rfl rfl rfl ?_;refine gr ?_;refine Ex.Rj (match s with|[]=>true|c::r=> !(C9 r.length 16&&bz c.toNat)) (Rn.text ?_) (fun ht=> ?_) (fun ht=> ?_)
 ·repeat' (first|refine cl (an4 _) ?_|refine gx ?_|refine fk (h1:=fun hw=> ?_) (h2:=fun hw=> ?_)|refine L7 (h1:=fun hw=> ?_) (h2:=fun hw=> ?_)|refine ⟨rfl,rfl,_,rfl,?_⟩|refine ⟨rfl,rfl⟩|fail)
  all_goals cases s
  all_goals first|(simp [*,b8,U0];done)|(simp_all [b8,U0];done)|(simp_all [b8,U0,p5,p4,j9,B8];done)|(simp_all [b8,U0,p5,p4,j9,B8]<;>omega)
 ·refine gr ?_
  refine ⟨_,rfl,?_⟩;cases s with
  |nil=>rfl
  |cons c r =>
   simp only [j5] at ht;simp only [E3,ht,b8,Bool.false_and]
 ·cases s with
  |nil=>cases ht
  |cons c r =>
  have hl:=ht;simp [p5] at hl;have hb:(c::r).length<=16:=by simp;omega
  refine gr ?_;refine Ex.J0 (fun k T H=>∃ (i:Nat) (v:b6),T=[.d (.str (c::r)),v,.d (.int .i64 i)]/\H=[]/\i+k=(c::r).length/\E3 (c::r)=((c::r).drop i).all fun c=>kK c.toNat) (by rintro _ _ _ ⟨_,_,_,rfl,_⟩;rfl) ?_ (k:=(c::r).length) ⟨0,_,rfl,rfl,by simp,by simp [E3,hl,p5]⟩;rintro k _ _ ⟨i,v,rfl,rfl,hk,hi⟩;refine Ex.nT ?_
  repeat' (first|refine cl (aO3 _) ?_|refine gx ?_|refine Ex.H7 ?_|refine Ex.H8 ?_|refine Ex.cond rfl (fun ht=> ?_) (fun ht=> ?_)|refine Ex.test (Rn.text ?_)|refine Ex.test (Rn.draw ?_)|refine ⟨_,rfl,fun ht=> ?_,fun ht=> ?_⟩|refine ⟨_,rfl,?_⟩|fail)
  ·simp only [j5] at ht
   simp only [b8];have h1:=y9 ‹_›;rw [hi,A2 (by omega)];simp [ht]
  ·have h1:=y9 ‹_›
   rw [A2 (by omega)] at hi;simp only [A9] at ht;refine ⟨k - 1,by omega,i+1,_,rfl,rfl,by omega,?_⟩;rw [hi];simp [ht]
  ·have h1:=y8 ‹_›
   rw [k9 (by omega)] at hi;simp [hi,b8]
theorem qa (n a b:Int):Pf A 95 [.d (num n),.d (num a),.d (num b)] (.d (.bool (n7 n a b))):=by
 refine Pf.run [.d (num n),.d (num a),.d (num b),.any] rfl rfl rfl rfl ?_
 repeat' (first|refine gx ?_|refine fk (h1:=fun hw=> ?_) (h2:=fun hw=> ?_)|refine L7 (h1:=fun hw=> ?_) (h2:=fun hw=> ?_)|refine Ex.H7 ?_|refine Ex.H8 ?_|refine Ex.cond rfl (fun ht=> ?_) (fun ht=> ?_)|refine Ex.test (Rn.text ?_)|refine Ex.test (Rn.draw ?_)|refine ⟨_,rfl,fun ht=> ?_,fun ht=> ?_⟩|refine ⟨_,rfl,?_⟩|fail)
 all_goals first|(simp [*,b8,n7];done)|(simp_all [b8,n7];done)|(simp_all [b8,n7,p5,p4,j9,B8];done)|(simp_all [b8,n7,p5,p4,j9,B8]<;>omega)
theorem bX (n a b:Int):Pf A 109 [.d (num n),.d (num a),.d (num b)] (.d (.bool (n7 n a b))):=by
 refine Pf.run [.d (num n),.d (num a),.d (num b),.any] rfl rfl rfl rfl ?_
 repeat' (first|refine gx ?_|refine fk (h1:=fun hw=> ?_) (h2:=fun hw=> ?_)|refine L7 (h1:=fun hw=> ?_) (h2:=fun hw=> ?_)|refine Ex.H7 ?_|refine Ex.H8 ?_|refine Ex.cond rfl (fun ht=> ?_) (fun ht=> ?_)|refine Ex.test (Rn.text ?_)|refine Ex.test (Rn.draw ?_)|refine ⟨_,rfl,fun ht=> ?_,fun ht=> ?_⟩|refine ⟨_,rfl,?_⟩|fail)
 all_goals first|(simp [*,b8,n7];done)|(simp_all [b8,n7];done)|(simp_all [b8,n7,p5,p4,j9,B8];done)|(simp_all [b8,n7,p5,p4,j9,B8]<;>omega)
theorem Vr (n:Int):Pf A 149 [.d (num n)] (.d (.bool (o9 n 1||o9 n 2))):=by
 refine Pf.run [.d (num n),.any] rfl rfl rfl rfl ?_
 repeat' (first|refine gx ?_|refine fk (h1:=fun hw=> ?_) (h2:=fun hw=> ?_)|refine L7 (h1:=fun hw=> ?_) (h2:=fun hw=> ?_)|refine Ex.H7 ?_|refine Ex.H8 ?_|refine Ex.cond rfl (fun ht=> ?_) (fun ht=> ?_)|refine Ex.test (Rn.text ?_)|refine Ex.test (Rn.draw ?_)|refine ⟨_,rfl,fun ht=> ?_,fun ht=> ?_⟩|refine ⟨_,rfl,?_⟩|fail)
 all_goals exact cc
def ints (l:List Int):y3.Data:=z6 (fun n=>[num n]) l
def uE (l:List D8):y3.Data:=z6 (fun s=>[.str s]) l
def hasB (l:List Int)(n:Int):Bool:=l.any fun x=>o9 x n
theorem an3 (xs:List Int)(n:Int)(hx:xs.length<=1000):Pf A 89 [.d (ints xs),.d (num n)] (.d (.bool (hasB xs n))):=by
 refine Pf.run [.d (ints xs),.d (num n),.any,.any] rfl rfl rfl rfl ?_;refine gr ?_;refine Ex.J0 (fun k T H=>∃ (i:Nat) (v:b6),T=[.d (ints xs),.d (num n),v,.d (num i)]/\H=[]/\i+k=xs.length/\hasB xs n=(xs.drop i).any fun x=>o9 x n) (by rintro _ _ _ ⟨_,_,_,rfl,_⟩;rfl) ?_ (k:=xs.length) ⟨0,_,rfl,rfl,by simp,by simp [hasB]⟩;rintro k _ _ ⟨i,v,rfl,rfl,hk,hi⟩;refine Ex.nT ?_
 repeat' (first|refine gx ?_|refine Ex.H7 ?_|refine Ex.H8 ?_|refine Ex.cond rfl (fun ht=> ?_) (fun ht=> ?_)|refine Ex.test (Rn.text ?_)|refine Ex.test (Rn.draw ?_)|refine ⟨_,rfl,fun ht=> ?_,fun ht=> ?_⟩|refine ⟨_,rfl,?_⟩|fail)
 ·have h1:=y9 ‹C9 i _=true›
  rw [A2 (by omega)] at hi;simp [hi,ht,b8]
 ·have h1:=y9 ‹C9 i _=true›
  rw [A2 (by omega)] at hi;exact ⟨k - 1,by omega,i+1,_,rfl,rfl,by omega,by simp [hi,ht]⟩
 ·have h1:=y8 ht
  rw [k9 (by omega)] at hi;simp [hi,b8]
def U4 {α:Type}(eq:α->α->Bool):List α->List α->Bool
 |[],[]=>true
 |a::l,c::m=>eq a c&&U4 eq l m
 |_,_=>false
theorem jO {α:Type}{eq:α->α->Bool}:∀ {l m:List α},l.length≠m.length->U4 eq l m=false
 |[],[],h=>absurd rfl h
 |[],_::_,_=>rfl
 |_::_,[],_=>rfl
 |a::l,c::m,h=>by simp only [U4,jO (l:=l) (m:=m) (by simpa using h),Bool.and_false]
theorem aO6 (xs ys:List Int)(hx:xs.length<=100000):Pf A 98 [.d (ints xs),.d (ints ys)] (.d (.bool (U4 o9 xs ys))):=by
 refine Pf.run [.d (ints xs),.d (ints ys),.any,.any] rfl rfl rfl rfl ?_
 repeat' (first|refine gx ?_|refine Ex.H7 ?_|refine Ex.H8 ?_|refine Ex.cond rfl (fun ht=> ?_) (fun ht=> ?_)|refine Ex.test (Rn.text ?_)|refine Ex.test (Rn.draw ?_)|refine ⟨_,rfl,fun ht=> ?_,fun ht=> ?_⟩|refine ⟨_,rfl,?_⟩|fail)
 ·have h1:xs.length≠ys.length:=by simp [j9] at ht;omega
  simp [jO h1,b8]
 have hl:xs.length=ys.length:=by simp [j9] at ht;omega
 refine Ex.J0 (fun k T H=>∃ (i:Nat) (v:b6),T=[.d (ints xs),.d (ints ys),v,.d (num i)]/\H=[]/\i+k=xs.length/\U4 o9 xs ys=U4 o9 (xs.drop i) (ys.drop i)) (by rintro _ _ _ ⟨_,_,_,rfl,_⟩;rfl) ?_ (k:=xs.length) ⟨0,_,rfl,rfl,by simp,by simp⟩;rintro k _ _ ⟨i,v,rfl,rfl,hk,hi⟩;refine Ex.nT ?_
 repeat' (first|refine gx ?_|refine Ex.H7 ?_|refine Ex.H8 ?_|refine Ex.cond rfl (fun ht=> ?_) (fun ht=> ?_)|refine Ex.test (Rn.text ?_)|refine Ex.test (Rn.draw ?_)|refine ⟨_,rfl,fun ht=> ?_,fun ht=> ?_⟩|refine ⟨_,rfl,?_⟩|fail)
 ·have h1:=y9 ‹C9 i _=true›
  rw [A2 (by omega),A2 (l:=ys) (by omega)] at hi;simp only [j5] at ht;simp [hi,U4,ht,b8]
 ·have h1:=y9 ‹C9 i _=true›
  rw [A2 (by omega),A2 (l:=ys) (by omega)] at hi;simp only [A9] at ht;exact ⟨k - 1,by omega,i+1,_,rfl,rfl,by omega,by simp [hi,U4,ht]⟩
 ·have h1:=y8 ht
  rw [k9 (by omega),k9 (by omega)] at hi;simp [hi,U4,b8]
theorem aN6 (xs ys:List Int)(hx:xs.length<=100000):Pf A 31 [.d (ints xs),.d (ints ys)] (.d (.bool (U4 o9 xs ys))):=by
 refine Pf.run [.d (ints xs),.d (ints ys),.any,.any] rfl rfl rfl rfl ?_
 repeat' (first|refine gx ?_|refine Ex.H7 ?_|refine Ex.H8 ?_|refine Ex.cond rfl (fun ht=> ?_) (fun ht=> ?_)|refine Ex.test (Rn.text ?_)|refine Ex.test (Rn.draw ?_)|refine ⟨_,rfl,fun ht=> ?_,fun ht=> ?_⟩|refine ⟨_,rfl,?_⟩|fail)
 ·have h1:xs.length≠ys.length:=by simp [j9] at ht;omega
  simp [jO h1,b8]
 have hl:xs.length=ys.length:=by simp [j9] at ht;omega
 refine Ex.J0 (fun k T H=>∃ (i:Nat) (v:b6),T=[.d (ints xs),.d (ints ys),v,.d (num i)]/\H=[]/\i+k=xs.length/\U4 o9 xs ys=U4 o9 (xs.drop i) (ys.drop i)) (by rintro _ _ _ ⟨_,_,_,rfl,_⟩;rfl) ?_ (k:=xs.length) ⟨0,_,rfl,rfl,by simp,by simp⟩;rintro k _ _ ⟨i,v,rfl,rfl,hk,hi⟩;refine Ex.nT ?_
 repeat' (first|refine gx ?_|refine Ex.H7 ?_|refine Ex.H8 ?_|refine Ex.cond rfl (fun ht=> ?_) (fun ht=> ?_)|refine Ex.test (Rn.text ?_)|refine Ex.test (Rn.draw ?_)|refine ⟨_,rfl,fun ht=> ?_,fun ht=> ?_⟩|refine ⟨_,rfl,?_⟩|fail)
 ·have h1:=y9 ‹C9 i _=true›
  rw [A2 (by omega),A2 (l:=ys) (by omega)] at hi;simp only [j5] at ht;simp [hi,U4,ht,b8]
 ·have h1:=y9 ‹C9 i _=true›
  rw [A2 (by omega),A2 (l:=ys) (by omega)] at hi;simp only [A9] at ht;exact ⟨k - 1,by omega,i+1,_,rfl,rfl,by omega,by simp [hi,U4,ht]⟩
 ·have h1:=y8 ht
  rw [k9 (by omega),k9 (by omega)] at hi;simp [hi,U4,b8]
theorem aN8 (xs ys:List D8)(hx:xs.length<=100000):Pf A 52 [.d (uE xs),.d (uE ys)] (.d (.bool (U4 J2 xs ys))):=by
 refine Pf.run [.d (uE xs),.d (uE ys),.any,.any] rfl rfl rfl rfl ?_
 repeat' (first|refine gx ?_|refine Ex.H7 ?_|refine Ex.H8 ?_|refine Ex.cond rfl (fun ht=> ?_) (fun ht=> ?_)|refine Ex.test (Rn.text ?_)|refine Ex.test (Rn.draw ?_)|refine ⟨_,rfl,fun ht=> ?_,fun ht=> ?_⟩|refine ⟨_,rfl,?_⟩|fail)
 ·have h1:xs.length≠ys.length:=by simp [j9] at ht;omega
  simp [jO h1,b8]
 have hl:xs.length=ys.length:=by simp [j9] at ht;omega
 refine Ex.J0 (fun k T H=>∃ (i:Nat) (v:b6),T=[.d (uE xs),.d (uE ys),v,.d (num i)]/\H=[]/\i+k=xs.length/\U4 J2 xs ys=U4 J2 (xs.drop i) (ys.drop i)) (by rintro _ _ _ ⟨_,_,_,rfl,_⟩;rfl) ?_ (k:=xs.length) ⟨0,_,rfl,rfl,by simp,by simp⟩;rintro k _ _ ⟨i,v,rfl,rfl,hk,hi⟩;refine Ex.nT ?_
 repeat' (first|refine gx ?_|refine Ex.H7 ?_|refine Ex.H8 ?_|refine Ex.cond rfl (fun ht=> ?_) (fun ht=> ?_)|refine Ex.test (Rn.text ?_)|refine Ex.test (Rn.draw ?_)|refine ⟨_,rfl,fun ht=> ?_,fun ht=> ?_⟩|refine ⟨_,rfl,?_⟩|fail)
 ·have h1:=y9 ‹C9 i _=true›
  rw [A2 (by omega),A2 (l:=ys) (by omega)] at hi;simp only [j5] at ht;simp [hi,U4,ht,b8]
 ·have h1:=y9 ‹C9 i _=true›
  rw [A2 (by omega),A2 (l:=ys) (by omega)] at hi;simp only [A9] at ht;exact ⟨k - 1,by omega,i+1,_,rfl,rfl,by omega,by simp [hi,U4,ht]⟩
 ·have h1:=y8 ht
  rw [k9 (by omega),k9 (by omega)] at hi;simp [hi,U4,b8]
theorem Vo (xs ys:List Int)(hx:xs.length<=100000):Pf A 117 [.d (ints xs),.d (ints ys)] (.d (.bool (U4 o9 xs ys))):=by
 refine Pf.run [.d (ints xs),.d (ints ys),.any,.any,.any,.any] rfl rfl rfl rfl ?_
 repeat' (first|refine gx ?_|refine Ex.H7 ?_|refine Ex.H8 ?_|refine Ex.cond rfl (fun ht=> ?_) (fun ht=> ?_)|refine Ex.test (Rn.text ?_)|refine Ex.test (Rn.draw ?_)|refine ⟨_,rfl,fun ht=> ?_,fun ht=> ?_⟩|refine ⟨_,rfl,?_⟩|fail)
 ·have h1:xs.length≠ys.length:=by simp [j9] at ht;omega
  simp [jO h1,b8]
 have hl:xs.length=ys.length:=by simp [j9] at ht;omega
 refine Ex.J0 (fun k T H=>∃ (i:Nat) (v w:b6),T=[.d (ints xs),.d (ints ys),v,w,.d (num xs.length),.d (num i)]/\H=[]/\i+k=xs.length/\U4 o9 xs ys=U4 o9 (xs.drop i) (ys.drop i)) (by rintro _ _ _ ⟨_,_,_,_,rfl,_⟩;rfl) ?_ (k:=xs.length) ⟨0,_,_,rfl,rfl,by simp,by simp⟩;rintro k _ _ ⟨i,v,w,rfl,rfl,hk,hi⟩;refine Ex.nT ?_
 repeat' (first|refine gx ?_|refine Ex.H7 ?_|refine Ex.H8 ?_|refine Ex.cond rfl (fun ht=> ?_) (fun ht=> ?_)|refine Ex.test (Rn.text ?_)|refine Ex.test (Rn.draw ?_)|refine ⟨_,rfl,fun ht=> ?_,fun ht=> ?_⟩|refine ⟨_,rfl,?_⟩|fail)
 ·have h1:=y9 ‹C9 i _=true›
  rw [A2 (by omega),A2 (l:=ys) (by omega)] at hi;simp only [j5] at ht;simp [hi,U4,ht,b8]
 ·have h1:=y9 ‹C9 i _=true›
  rw [A2 (by omega),A2 (l:=ys) (by omega)] at hi;simp only [A9] at ht;exact ⟨k - 1,by omega,i+1,_,_,rfl,rfl,by omega,by simp [hi,U4,ht]⟩
 ·have h1:=y8 ht
  rw [k9 (by omega),k9 (by omega)] at hi;simp [hi,U4,b8]
def encS (s:D8):List y3.Data:=[.str s]
set_option maxHeartbeats 4000000 in
theorem an2 (c:m8)(hf:c.fI):Pf A 63 [cat c] (.d (z6 encS c.names)):=by
 obtain ⟨f0,f1,f2,f3,f4,f5,f6,f7⟩:=hf;refine Pf.run [cat c,.any,.any,.any,.any,.any,.any,.any,.any,.any,.any,.any] rfl rfl rfl rfl ?_;refine gr ?_;refine Ex.J0 (fun k T H=>∃ (i:Nat) (acc:List D8) (v0 v2 w5 w6 w7 w8 w9 jX hU:b6),T=[v0,.ptr 0 0,v2,B3 1 encS acc,.d (num i),w5,w6,w7,w8,w9,jX,hU]/\H=[.cells (c.enc.map .d)]/\i+k=c.j3.length/\acc=([]:List D8)++(c.j3.take i).map eZ.name) (by rintro _ _ _ ⟨_,_,_,_,_,_,_,_,_,_,_,_,rfl,_⟩;rfl) ?_ (k:=c.j3.length) ⟨0,([]:List D8),_,_,_,_,_,_,_,_,_,rfl,rfl,by simp,by simp⟩;rintro k _ _ ⟨i,acc,v0,v2,w5,w6,w7,w8,w9,jX,hU,rfl,rfl,hk,hacc⟩;have hl:acc.length=0+i:=by rw [hacc];simp;omega
 refine Ex.nT ?_
 repeat' (first|refine gx ?_|refine Ex.H7 ?_|refine Ex.H8 ?_|refine Ex.cond rfl (fun ht=> ?_) (fun ht=> ?_)|refine Ex.test (Rn.text ?_)|refine Ex.test (Rn.draw ?_)|refine ⟨_,rfl,fun ht=> ?_,fun ht=> ?_⟩|refine ⟨_,rfl,?_⟩|fail)
 ·have h1:=y9 ht
  refine ⟨k - 1,by omega,i+1,acc++[(nth c.j3 i).name],_,_,_,_,_,_,_,_,_,rfl,rfl,by omega,?_⟩;rw [F7 (by omega),hacc];simp
 have h1:=y8 ht;rw [q5 (by omega)] at hacc;clear ht h1 hk hl;subst hacc;refine Ex.J0 (fun k T H=>∃ (i:Nat) (acc:List D8) (v0 v2 w4 w6 w7 w8 w9 jX hU:b6),T=[v0,.ptr 0 0,v2,B3 1 encS acc,w4,.d (num i),w6,w7,w8,w9,jX,hU]/\H=[.cells (c.enc.map .d)]/\i+k=c.views.length/\acc=c.j3.map eZ.name++(c.views.take i).map Vw.name) (by rintro _ _ _ ⟨_,_,_,_,_,_,_,_,_,_,_,_,rfl,_⟩;rfl) ?_ (k:=c.views.length) ⟨0,c.j3.map eZ.name,_,_,_,_,_,_,_,_,_,rfl,rfl,by simp,by simp⟩;rintro k _ _ ⟨i,acc,v0,v2,w4,w6,w7,w8,w9,jX,hU,rfl,rfl,hk,hacc⟩;have hl:acc.length=0+c.j3.length+i:=by rw [hacc];simp;omega
 refine Ex.nT ?_
 repeat' (first|refine gx ?_|refine Ex.H7 ?_|refine Ex.H8 ?_|refine Ex.cond rfl (fun ht=> ?_) (fun ht=> ?_)|refine Ex.test (Rn.text ?_)|refine Ex.test (Rn.draw ?_)|refine ⟨_,rfl,fun ht=> ?_,fun ht=> ?_⟩|refine ⟨_,rfl,?_⟩|fail)
 ·have h1:=y9 ht
  refine ⟨k - 1,by omega,i+1,acc++[(nth c.views i).name],_,_,_,_,_,_,_,_,_,rfl,rfl,by omega,?_⟩;rw [F7 (by omega),hacc];simp
 have h1:=y8 ht;rw [q5 (by omega)] at hacc;clear ht h1 hk hl;subst hacc;refine Ex.J0 (fun k T H=>∃ (i:Nat) (acc:List D8) (v0 v2 w4 w5 w7 w8 w9 jX hU:b6),T=[v0,.ptr 0 0,v2,B3 1 encS acc,w4,w5,.d (num i),w7,w8,w9,jX,hU]/\H=[.cells (c.enc.map .d)]/\i+k=c.idxs.length/\acc=c.j3.map eZ.name++c.views.map Vw.name++(c.idxs.take i).map iC.name) (by rintro _ _ _ ⟨_,_,_,_,_,_,_,_,_,_,_,_,rfl,_⟩;rfl) ?_ (k:=c.idxs.length) ⟨0,c.j3.map eZ.name++c.views.map Vw.name,_,_,_,_,_,_,_,_,_,rfl,rfl,by simp,by simp⟩;rintro k _ _ ⟨i,acc,v0,v2,w4,w5,w7,w8,w9,jX,hU,rfl,rfl,hk,hacc⟩;have hl:acc.length=0+c.j3.length+c.views.length+i:=by rw [hacc];simp;omega
 refine Ex.nT ?_
 repeat' (first|refine gx ?_|refine Ex.H7 ?_|refine Ex.H8 ?_|refine Ex.cond rfl (fun ht=> ?_) (fun ht=> ?_)|refine Ex.test (Rn.text ?_)|refine Ex.test (Rn.draw ?_)|refine ⟨_,rfl,fun ht=> ?_,fun ht=> ?_⟩|refine ⟨_,rfl,?_⟩|fail)
 ·have h1:=y9 ht
  refine ⟨k - 1,by omega,i+1,acc++[(nth c.idxs i).name],_,_,_,_,_,_,_,_,_,rfl,rfl,by omega,?_⟩;rw [F7 (by omega),hacc];simp
 have h1:=y8 ht;rw [q5 (by omega)] at hacc;clear ht h1 hk hl;subst hacc;refine Ex.J0 (fun k T H=>∃ (i:Nat) (acc:List D8) (v0 v2 w4 w5 w6 w8 w9 jX hU:b6),T=[v0,.ptr 0 0,v2,B3 1 encS acc,w4,w5,w6,.d (num i),w8,w9,jX,hU]/\H=[.cells (c.enc.map .d)]/\i+k=c.E7.length/\acc=c.j3.map eZ.name++c.views.map Vw.name++c.idxs.map iC.name++(c.E7.take i).map iq.name) (by rintro _ _ _ ⟨_,_,_,_,_,_,_,_,_,_,_,_,rfl,_⟩;rfl) ?_ (k:=c.E7.length) ⟨0,c.j3.map eZ.name++c.views.map Vw.name++c.idxs.map iC.name,_,_,_,_,_,_,_,_,_,rfl,rfl,by simp,by simp⟩;rintro k _ _ ⟨i,acc,v0,v2,w4,w5,w6,w8,w9,jX,hU,rfl,rfl,hk,hacc⟩;have hl:acc.length=0+c.j3.length+c.views.length+c.idxs.length+i:=by rw [hacc];simp;omega
 refine Ex.nT ?_
 repeat' (first|refine gx ?_|refine Ex.H7 ?_|refine Ex.H8 ?_|refine Ex.cond rfl (fun ht=> ?_) (fun ht=> ?_)|refine Ex.test (Rn.text ?_)|refine Ex.test (Rn.draw ?_)|refine ⟨_,rfl,fun ht=> ?_,fun ht=> ?_⟩|refine ⟨_,rfl,?_⟩|fail)
 ·have h1:=y9 ht
  refine ⟨k - 1,by omega,i+1,acc++[(nth c.E7 i).name],_,_,_,_,_,_,_,_,_,rfl,rfl,by omega,?_⟩;rw [F7 (by omega),hacc];simp
 have h1:=y8 ht;rw [q5 (by omega)] at hacc;clear ht h1 hk hl;subst hacc;refine Ex.J0 (fun k T H=>∃ (i:Nat) (acc:List D8) (v0 v2 w4 w5 w6 w7 w9 jX hU:b6),T=[v0,.ptr 0 0,v2,B3 1 encS acc,w4,w5,w6,w7,.d (num i),w9,jX,hU]/\H=[.cells (c.enc.map .d)]/\i+k=c.F1.length/\acc=c.j3.map eZ.name++c.views.map Vw.name++c.idxs.map iC.name++c.E7.map iq.name++(c.F1.take i).map kj.name) (by rintro _ _ _ ⟨_,_,_,_,_,_,_,_,_,_,_,_,rfl,_⟩;rfl) ?_ (k:=c.F1.length) ⟨0,c.j3.map eZ.name++c.views.map Vw.name++c.idxs.map iC.name++c.E7.map iq.name,_,_,_,_,_,_,_,_,_,rfl,rfl,by simp,by simp⟩;rintro k _ _ ⟨i,acc,v0,v2,w4,w5,w6,w7,w9,jX,hU,rfl,rfl,hk,hacc⟩;have hl:acc.length=0+c.j3.length+c.views.length+c.idxs.length+c.E7.length+i:=by rw [hacc];simp;omega
 refine Ex.nT ?_
 repeat' (first|refine gx ?_|refine Ex.H7 ?_|refine Ex.H8 ?_|refine Ex.cond rfl (fun ht=> ?_) (fun ht=> ?_)|refine Ex.test (Rn.text ?_)|refine Ex.test (Rn.draw ?_)|refine ⟨_,rfl,fun ht=> ?_,fun ht=> ?_⟩|refine ⟨_,rfl,?_⟩|fail)
 ·have h1:=y9 ht
  refine ⟨k - 1,by omega,i+1,acc++[(nth c.F1 i).name],_,_,_,_,_,_,_,_,_,rfl,rfl,by omega,?_⟩;rw [F7 (by omega),hacc];simp
 have h1:=y8 ht;rw [q5 (by omega)] at hacc;clear ht h1 hk hl;subst hacc;refine Ex.J0 (fun k T H=>∃ (i:Nat) (acc:List D8) (v0 v2 w4 w5 w6 w7 w8 jX hU:b6),T=[v0,.ptr 0 0,v2,B3 1 encS acc,w4,w5,w6,w7,w8,.d (num i),jX,hU]/\H=[.cells (c.enc.map .d)]/\i+k=c.I9.length/\acc=c.j3.map eZ.name++c.views.map Vw.name++c.idxs.map iC.name++c.E7.map iq.name++c.F1.map kj.name++(c.I9.take i).map jx.name) (by rintro _ _ _ ⟨_,_,_,_,_,_,_,_,_,_,_,_,rfl,_⟩;rfl) ?_ (k:=c.I9.length) ⟨0,c.j3.map eZ.name++c.views.map Vw.name++c.idxs.map iC.name++c.E7.map iq.name++c.F1.map kj.name,_,_,_,_,_,_,_,_,_,rfl,rfl,by simp,by simp⟩;rintro k _ _ ⟨i,acc,v0,v2,w4,w5,w6,w7,w8,jX,hU,rfl,rfl,hk,hacc⟩;have hl:acc.length=0+c.j3.length+c.views.length+c.idxs.length+c.E7.length+c.F1.length+i:=by rw [hacc];simp;omega
 refine Ex.nT ?_
 repeat' (first|refine gx ?_|refine Ex.H7 ?_|refine Ex.H8 ?_|refine Ex.cond rfl (fun ht=> ?_) (fun ht=> ?_)|refine Ex.test (Rn.text ?_)|refine Ex.test (Rn.draw ?_)|refine ⟨_,rfl,fun ht=> ?_,fun ht=> ?_⟩|refine ⟨_,rfl,?_⟩|fail)
 ·have h1:=y9 ht
  refine ⟨k - 1,by omega,i+1,acc++[(nth c.I9 i).name],_,_,_,_,_,_,_,_,_,rfl,rfl,by omega,?_⟩;rw [F7 (by omega),hacc];simp
 have h1:=y8 ht;rw [q5 (by omega)] at hacc;clear ht h1 hk hl;subst hacc;refine Ex.J0 (fun k T H=>∃ (i:Nat) (acc:List D8) (v0 v2 w4 w5 w6 w7 w8 w9 hU:b6),T=[v0,.ptr 0 0,v2,B3 1 encS acc,w4,w5,w6,w7,w8,w9,.d (num i),hU]/\H=[.cells (c.enc.map .d)]/\i+k=c.K9.length/\acc=c.j3.map eZ.name++c.views.map Vw.name++c.idxs.map iC.name++c.E7.map iq.name++c.F1.map kj.name++c.I9.map jx.name++(c.K9.take i).map lS.name) (by rintro _ _ _ ⟨_,_,_,_,_,_,_,_,_,_,_,_,rfl,_⟩;rfl) ?_ (k:=c.K9.length) ⟨0,c.j3.map eZ.name++c.views.map Vw.name++c.idxs.map iC.name++c.E7.map iq.name++c.F1.map kj.name++c.I9.map jx.name,_,_,_,_,_,_,_,_,_,rfl,rfl,by simp,by simp⟩;rintro k _ _ ⟨i,acc,v0,v2,w4,w5,w6,w7,w8,w9,hU,rfl,rfl,hk,hacc⟩;have hl:acc.length=0+c.j3.length+c.views.length+c.idxs.length+c.E7.length+c.F1.length+c.I9.length+i:=by rw [hacc];simp;omega
 refine Ex.nT ?_
 repeat' (first|refine gx ?_|refine Ex.H7 ?_|refine Ex.H8 ?_|refine Ex.cond rfl (fun ht=> ?_) (fun ht=> ?_)|refine Ex.test (Rn.text ?_)|refine Ex.test (Rn.draw ?_)|refine ⟨_,rfl,fun ht=> ?_,fun ht=> ?_⟩|refine ⟨_,rfl,?_⟩|fail)
 ·have h1:=y9 ht
  refine ⟨k - 1,by omega,i+1,acc++[(nth c.K9 i).name],_,_,_,_,_,_,_,_,_,rfl,rfl,by omega,?_⟩;rw [F7 (by omega),hacc];simp
 have h1:=y8 ht;rw [q5 (by omega)] at hacc;clear ht h1 hk hl;subst hacc;refine Ex.J0 (fun k T H=>∃ (i:Nat) (acc:List D8) (v0 v2 w4 w5 w6 w7 w8 w9 jX:b6),T=[v0,.ptr 0 0,v2,B3 1 encS acc,w4,w5,w6,w7,w8,w9,jX,.d (num i)]/\H=[.cells (c.enc.map .d)]/\i+k=c.M7.length/\acc=c.j3.map eZ.name++c.views.map Vw.name++c.idxs.map iC.name++c.E7.map iq.name++c.F1.map kj.name++c.I9.map jx.name++c.K9.map lS.name++(c.M7.take i).map lQ.name) (by rintro _ _ _ ⟨_,_,_,_,_,_,_,_,_,_,_,_,rfl,_⟩;rfl) ?_ (k:=c.M7.length) ⟨0,c.j3.map eZ.name++c.views.map Vw.name++c.idxs.map iC.name++c.E7.map iq.name++c.F1.map kj.name++c.I9.map jx.name++c.K9.map lS.name,_,_,_,_,_,_,_,_,_,rfl,rfl,by simp,by simp⟩;rintro k _ _ ⟨i,acc,v0,v2,w4,w5,w6,w7,w8,w9,jX,rfl,rfl,hk,hacc⟩;have hl:acc.length=0+c.j3.length+c.views.length+c.idxs.length+c.E7.length+c.F1.length+c.I9.length+c.K9.length+i:=by rw [hacc];simp;omega
 refine Ex.nT ?_
 repeat' (first|refine gx ?_|refine Ex.H7 ?_|refine Ex.H8 ?_|refine Ex.cond rfl (fun ht=> ?_) (fun ht=> ?_)|refine Ex.test (Rn.text ?_)|refine Ex.test (Rn.draw ?_)|refine ⟨_,rfl,fun ht=> ?_,fun ht=> ?_⟩|refine ⟨_,rfl,?_⟩|fail)
 ·have h1:=y9 ht
  refine ⟨k - 1,by omega,i+1,acc++[(nth c.M7 i).name],_,_,_,_,_,_,_,_,_,rfl,rfl,by omega,?_⟩;rw [F7 (by omega),hacc];simp
 have h1:=y8 ht;rw [q5 (by omega)] at hacc;clear ht h1 hk hl;subst hacc;simp [b8,z6,B3,m8.names]
end Go.Proofs.YtkmclibmmlgogaaGreat

