/-
  The reference's small functions.; The reference's and the program's functions over plain lists.; The reference's names of all declarations.
  (Put together by a small program out of several texts; blanks left out to keep the folder small.)
-/
import Derived.Test.YtkmclibmmlgogaaGreatAbs
import Derived.Test.YtkmclibmmlgogaaGreatB6
set_option linter.unusedVariables false
set_option linter.unusedSimpArgs false
namespace Go.Proofs.YtkmclibmmlgogaaGreat
open Go.Abs Go.Abs.S
attribute [local irreducible] Rx Ry Rn Ex Pf
def letterB (n:Int):Bool:=leB 97 n&&leB n 122
def digitB (n:Int):Bool:=leB 48 n&&leB n 57
def inNameB (n:Int):Bool:=letterB n||digitB n||eqB n 95
def isNameB:Str→Bool
 |[]=>false
 |c::r=>ltB r.length 16&&letterB c.toNat&&(c::r).all fun c=>inNameB c.toNat
theorem pf93 (n:Int):Pf A 93 [.d (.int .u8 n)] (.d (.bool (letterB n))):=by
 refine Pf.run [.d (.int .u8 n),.any] rfl rfl rfl rfl ?_
 repeat' (first|refine gx ?_|refine fk (h1:=fun hw=> ?_) (h2:=fun hw=> ?_)|refine fpk (h1:=fun hw=> ?_) (h2:=fun hw=> ?_)|refine Ex.condP ?_|refine Ex.condN ?_|refine Ex.cond rfl (fun ht=> ?_) (fun ht=> ?_)|refine Ex.test (Rn.text ?_)|refine Ex.test (Rn.draw ?_)|refine ⟨_,rfl,fun ht=> ?_,fun ht=> ?_⟩|refine ⟨_,rfl,?_⟩|fail)
 all_goals simp_all [oneOrTuple,letterB]
theorem pf142 (n:Int):Pf A 142 [.d (.int .u8 n)] (.d (.bool (digitB n))):=by
 refine Pf.run [.d (.int .u8 n),.any] rfl rfl rfl rfl ?_
 repeat' (first|refine gx ?_|refine fk (h1:=fun hw=> ?_) (h2:=fun hw=> ?_)|refine fpk (h1:=fun hw=> ?_) (h2:=fun hw=> ?_)|refine Ex.condP ?_|refine Ex.condN ?_|refine Ex.cond rfl (fun ht=> ?_) (fun ht=> ?_)|refine Ex.test (Rn.text ?_)|refine Ex.test (Rn.draw ?_)|refine ⟨_,rfl,fun ht=> ?_,fun ht=> ?_⟩|refine ⟨_,rfl,?_⟩|fail)
 all_goals simp_all [oneOrTuple,digitB]
theorem pf94 (n:Int):Pf A 94 [.d (.int .u8 n)] (.d (.bool (inNameB n))):=by
 refine Pf.run [.d (.int .u8 n),.any] rfl rfl rfl rfl ?_
 repeat' (first|refine cl (pf93 _) ?_|refine cl (pf142 _) ?_|refine gx ?_|refine fk (h1:=fun hw=> ?_) (h2:=fun hw=> ?_)|refine fpk (h1:=fun hw=> ?_) (h2:=fun hw=> ?_)|refine Ex.condP ?_|refine Ex.condN ?_|refine Ex.cond rfl (fun ht=> ?_) (fun ht=> ?_)|refine Ex.test (Rn.text ?_)|refine Ex.test (Rn.draw ?_)|refine ⟨_,rfl,fun ht=> ?_,fun ht=> ?_⟩|refine ⟨_,rfl,?_⟩|fail)
 all_goals simp_all [oneOrTuple,inNameB]
theorem pf64 (s:Str):Pf A 64 [.d (.str s)] (.d (.bool (isNameB s))):=by
 refine Pf.run [.d (.str s),.any,.any] rfl rfl rfl rfl ?_
 repeat' (first|refine gx ?_|fail)
 refine Ex.testB (match s with|[]=>true|c::r=> !(ltB r.length 16&&letterB c.toNat)) (Rn.text ?_) (fun ht=> ?_) (fun ht=> ?_)
 ·repeat' (first|refine cl (pf93 _) ?_|refine gx ?_|refine fk (h1:=fun hw=> ?_) (h2:=fun hw=> ?_)|refine fpk (h1:=fun hw=> ?_) (h2:=fun hw=> ?_)|refine ⟨rfl,rfl,_,rfl,?_⟩|refine ⟨rfl,rfl⟩|fail)
  all_goals cases s
  all_goals first|(simp [*,oneOrTuple,nth_zero];done)|(simp_all [oneOrTuple,nth_zero];done)|(simp_all [oneOrTuple,nth_zero,ltB_eq,leB_eq,eqB_eq,seB_eq];done)|(simp_all [oneOrTuple,nth_zero,ltB_eq,leB_eq,eqB_eq,seB_eq]<;>omega)
 ·repeat' (first|refine gx ?_|fail)
  refine ⟨_,rfl,?_⟩
  cases s with
  |nil=>rfl
  |cons c r =>
   simp only [Bool.not_eq_true'] at ht
   simp only [isNameB,ht,oneOrTuple,Bool.false_and]
 ·cases s with
  |nil=>cases ht
  |cons c r =>
  have hl:=ht
  simp [ltB_eq] at hl
  have hb:(c::r).length≤16:=by simp;omega
  repeat' (first|refine gx ?_|fail)
  refine Ex.loopS (fun k T H=>∃ (i:Nat) (v:AVal),T=[.d (.str (c::r)),v,.d (.int .i64 i)]∧H=[]∧i+k=(c::r).length∧isNameB (c::r)=((c::r).drop i).all fun c=>inNameB c.toNat) (by rintro _ _ _ ⟨_,_,_,rfl,_⟩;rfl) ?_ (k:=(c::r).length) ⟨0,_,rfl,rfl,by simp,by simp [isNameB,hl,ltB_eq]⟩
  rintro k _ _ ⟨i,v,rfl,rfl,hk,hi⟩
  refine Ex.nT ?_
  repeat' (first|refine cl (pf94 _) ?_|refine gx ?_|refine Ex.condP ?_|refine Ex.condN ?_|refine Ex.cond rfl (fun ht=> ?_) (fun ht=> ?_)|refine Ex.test (Rn.text ?_)|refine Ex.test (Rn.draw ?_)|refine ⟨_,rfl,fun ht=> ?_,fun ht=> ?_⟩|refine ⟨_,rfl,?_⟩|fail)
  ·simp only [Bool.not_eq_true'] at ht
   simp only [oneOrTuple]
   have h1:=ltB_t ‹_›
   rw [hi,drop_nth (by omega)]
   simp [ht]
  ·have h1:=ltB_t ‹_›
   rw [drop_nth (by omega)] at hi
   simp only [Bool.not_eq_false'] at ht
   refine ⟨k - 1,by omega,i+1,_,rfl,rfl,by omega,?_⟩
   rw [hi]
   simp [ht]
  ·have h1:=ltB_f ‹_›
   rw [List.drop_of_length_le (by omega)] at hi
   simp [hi,oneOrTuple]
theorem pf95 (n a b:Int):Pf A 95 [.d (num n),.d (num a),.d (num b)] (.d (.bool (withinB n a b))):=by
 refine Pf.run [.d (num n),.d (num a),.d (num b),.any] rfl rfl rfl rfl ?_
 repeat' (first|refine gx ?_|refine fk (h1:=fun hw=> ?_) (h2:=fun hw=> ?_)|refine fpk (h1:=fun hw=> ?_) (h2:=fun hw=> ?_)|refine Ex.condP ?_|refine Ex.condN ?_|refine Ex.cond rfl (fun ht=> ?_) (fun ht=> ?_)|refine Ex.test (Rn.text ?_)|refine Ex.test (Rn.draw ?_)|refine ⟨_,rfl,fun ht=> ?_,fun ht=> ?_⟩|refine ⟨_,rfl,?_⟩|fail)
 all_goals first|(simp [*,oneOrTuple,withinB];done)|(simp_all [oneOrTuple,withinB];done)|(simp_all [oneOrTuple,withinB,ltB_eq,leB_eq,eqB_eq,seB_eq];done)|(simp_all [oneOrTuple,withinB,ltB_eq,leB_eq,eqB_eq,seB_eq]<;>omega)
theorem pf109 (n a b:Int):Pf A 109 [.d (num n),.d (num a),.d (num b)] (.d (.bool (withinB n a b))):=by
 refine Pf.run [.d (num n),.d (num a),.d (num b),.any] rfl rfl rfl rfl ?_
 repeat' (first|refine gx ?_|refine fk (h1:=fun hw=> ?_) (h2:=fun hw=> ?_)|refine fpk (h1:=fun hw=> ?_) (h2:=fun hw=> ?_)|refine Ex.condP ?_|refine Ex.condN ?_|refine Ex.cond rfl (fun ht=> ?_) (fun ht=> ?_)|refine Ex.test (Rn.text ?_)|refine Ex.test (Rn.draw ?_)|refine ⟨_,rfl,fun ht=> ?_,fun ht=> ?_⟩|refine ⟨_,rfl,?_⟩|fail)
 all_goals first|(simp [*,oneOrTuple,withinB];done)|(simp_all [oneOrTuple,withinB];done)|(simp_all [oneOrTuple,withinB,ltB_eq,leB_eq,eqB_eq,seB_eq];done)|(simp_all [oneOrTuple,withinB,ltB_eq,leB_eq,eqB_eq,seB_eq]<;>omega)
theorem pf149 (n:Int):Pf A 149 [.d (num n)] (.d (.bool (eqB n 1||eqB n 2))):=by
 refine Pf.run [.d (num n),.any] rfl rfl rfl rfl ?_
 repeat' (first|refine gx ?_|refine fk (h1:=fun hw=> ?_) (h2:=fun hw=> ?_)|refine fpk (h1:=fun hw=> ?_) (h2:=fun hw=> ?_)|refine Ex.condP ?_|refine Ex.condN ?_|refine Ex.cond rfl (fun ht=> ?_) (fun ht=> ?_)|refine Ex.test (Rn.text ?_)|refine Ex.test (Rn.draw ?_)|refine ⟨_,rfl,fun ht=> ?_,fun ht=> ?_⟩|refine ⟨_,rfl,?_⟩|fail)
 all_goals first|(simp [*,oneOrTuple];done)|(simp_all [oneOrTuple];done)|(simp_all [oneOrTuple,ltB_eq,leB_eq,eqB_eq,seB_eq];done)|(simp_all [oneOrTuple,ltB_eq,leB_eq,eqB_eq,seB_eq]<;>omega)
def ints (l:List Int):Abs.Data:=encL (fun n=>[num n]) l
def strs' (l:List Str):Abs.Data:=encL (fun s=>[.str s]) l
def hasB (l:List Int)(n:Int):Bool:=l.any fun x=>eqB x n
theorem pf89 (xs:List Int)(n:Int)(hx:xs.length≤1000):Pf A 89 [.d (ints xs),.d (num n)] (.d (.bool (hasB xs n))):=by
 refine Pf.run [.d (ints xs),.d (num n),.any,.any] rfl rfl rfl rfl ?_
 repeat' (first|refine gx ?_|fail)
 refine Ex.loopS (fun k T H=>∃ (i:Nat) (v:AVal),T=[.d (ints xs),.d (num n),v,.d (num i)]∧H=[]∧i+k=xs.length∧hasB xs n=(xs.drop i).any fun x=>eqB x n) (by rintro _ _ _ ⟨_,_,_,rfl,_⟩;rfl) ?_ (k:=xs.length) ⟨0,_,rfl,rfl,by simp,by simp [hasB]⟩
 rintro k _ _ ⟨i,v,rfl,rfl,hk,hi⟩
 refine Ex.nT ?_
 repeat' (first|refine gx ?_|refine Ex.condP ?_|refine Ex.condN ?_|refine Ex.cond rfl (fun ht=> ?_) (fun ht=> ?_)|refine Ex.test (Rn.text ?_)|refine Ex.test (Rn.draw ?_)|refine ⟨_,rfl,fun ht=> ?_,fun ht=> ?_⟩|refine ⟨_,rfl,?_⟩|fail)
 ·have h1:=ltB_t ‹ltB i _=true›
  rw [drop_nth (by omega)] at hi
  simp [hi,ht,oneOrTuple]
 ·have h1:=ltB_t ‹ltB i _=true›
  rw [drop_nth (by omega)] at hi
  exact ⟨k - 1,by omega,i+1,_,rfl,rfl,by omega,by simp [hi,ht]⟩
 ·have h1:=ltB_f ht
  rw [List.drop_of_length_le (by omega)] at hi
  simp [hi,oneOrTuple]
end Go.Proofs.YtkmclibmmlgogaaGreat
namespace Go.Proofs.YtkmclibmmlgogaaGreat
open Go.Abs Go.Abs.S
attribute [local irreducible] Rx Ry Rn Ex Pf
def sameB {α:Type}(eq:α→α→Bool):List α→List α→Bool
 |[],[]=>true
 |a::l,c::m=>eq a c&&sameB eq l m
 |_,_=>false
theorem sameB_len {α:Type}{eq:α→α→Bool}:∀ {l m:List α},l.length≠m.length→sameB eq l m=false
 |[],[],h=>absurd rfl h
 |[],_::_,_=>rfl
 |_::_,[],_=>rfl
 |a::l,c::m,h=>by simp only [sameB,sameB_len (l:=l) (m:=m) (by simpa using h),Bool.and_false]
theorem pf98 (xs ys:List Int)(hx:xs.length≤100000):Pf A 98 [.d (ints xs),.d (ints ys)] (.d (.bool (sameB eqB xs ys))):=by
 refine Pf.run [.d (ints xs),.d (ints ys),.any,.any] rfl rfl rfl rfl ?_
 repeat' (first|refine gx ?_|refine Ex.condP ?_|refine Ex.condN ?_|refine Ex.cond rfl (fun ht=> ?_) (fun ht=> ?_)|refine Ex.test (Rn.text ?_)|refine Ex.test (Rn.draw ?_)|refine ⟨_,rfl,fun ht=> ?_,fun ht=> ?_⟩|refine ⟨_,rfl,?_⟩|fail)
 ·have h1:xs.length≠ys.length:=by simp [eqB_eq] at ht;omega
  simp [sameB_len h1,oneOrTuple]
 have hl:xs.length=ys.length:=by simp [eqB_eq] at ht;omega
 refine Ex.loopS (fun k T H=>∃ (i:Nat) (v:AVal),T=[.d (ints xs),.d (ints ys),v,.d (num i)]∧H=[]∧i+k=xs.length∧sameB eqB xs ys=sameB eqB (xs.drop i) (ys.drop i)) (by rintro _ _ _ ⟨_,_,_,rfl,_⟩;rfl) ?_ (k:=xs.length) ⟨0,_,rfl,rfl,by simp,by simp⟩
 rintro k _ _ ⟨i,v,rfl,rfl,hk,hi⟩
 refine Ex.nT ?_
 repeat' (first|refine gx ?_|refine Ex.condP ?_|refine Ex.condN ?_|refine Ex.cond rfl (fun ht=> ?_) (fun ht=> ?_)|refine Ex.test (Rn.text ?_)|refine Ex.test (Rn.draw ?_)|refine ⟨_,rfl,fun ht=> ?_,fun ht=> ?_⟩|refine ⟨_,rfl,?_⟩|fail)
 ·have h1:=ltB_t ‹ltB i _=true›
  rw [drop_nth (by omega),drop_nth (l:=ys) (by omega)] at hi
  simp only [Bool.not_eq_true'] at ht
  simp [hi,sameB,ht,oneOrTuple]
 ·have h1:=ltB_t ‹ltB i _=true›
  rw [drop_nth (by omega),drop_nth (l:=ys) (by omega)] at hi
  simp only [Bool.not_eq_false'] at ht
  exact ⟨k - 1,by omega,i+1,_,rfl,rfl,by omega,by simp [hi,sameB,ht]⟩
 ·have h1:=ltB_f ht
  rw [List.drop_of_length_le (by omega),List.drop_of_length_le (by omega)] at hi
  simp [hi,sameB,oneOrTuple]
theorem pf31 (xs ys:List Int)(hx:xs.length≤100000):Pf A 31 [.d (ints xs),.d (ints ys)] (.d (.bool (sameB eqB xs ys))):=by
 refine Pf.run [.d (ints xs),.d (ints ys),.any,.any] rfl rfl rfl rfl ?_
 repeat' (first|refine gx ?_|refine Ex.condP ?_|refine Ex.condN ?_|refine Ex.cond rfl (fun ht=> ?_) (fun ht=> ?_)|refine Ex.test (Rn.text ?_)|refine Ex.test (Rn.draw ?_)|refine ⟨_,rfl,fun ht=> ?_,fun ht=> ?_⟩|refine ⟨_,rfl,?_⟩|fail)
 ·have h1:xs.length≠ys.length:=by simp [eqB_eq] at ht;omega
  simp [sameB_len h1,oneOrTuple]
 have hl:xs.length=ys.length:=by simp [eqB_eq] at ht;omega
 refine Ex.loopS (fun k T H=>∃ (i:Nat) (v:AVal),T=[.d (ints xs),.d (ints ys),v,.d (num i)]∧H=[]∧i+k=xs.length∧sameB eqB xs ys=sameB eqB (xs.drop i) (ys.drop i)) (by rintro _ _ _ ⟨_,_,_,rfl,_⟩;rfl) ?_ (k:=xs.length) ⟨0,_,rfl,rfl,by simp,by simp⟩
 rintro k _ _ ⟨i,v,rfl,rfl,hk,hi⟩
 refine Ex.nT ?_
 repeat' (first|refine gx ?_|refine Ex.condP ?_|refine Ex.condN ?_|refine Ex.cond rfl (fun ht=> ?_) (fun ht=> ?_)|refine Ex.test (Rn.text ?_)|refine Ex.test (Rn.draw ?_)|refine ⟨_,rfl,fun ht=> ?_,fun ht=> ?_⟩|refine ⟨_,rfl,?_⟩|fail)
 ·have h1:=ltB_t ‹ltB i _=true›
  rw [drop_nth (by omega),drop_nth (l:=ys) (by omega)] at hi
  simp only [Bool.not_eq_true'] at ht
  simp [hi,sameB,ht,oneOrTuple]
 ·have h1:=ltB_t ‹ltB i _=true›
  rw [drop_nth (by omega),drop_nth (l:=ys) (by omega)] at hi
  simp only [Bool.not_eq_false'] at ht
  exact ⟨k - 1,by omega,i+1,_,rfl,rfl,by omega,by simp [hi,sameB,ht]⟩
 ·have h1:=ltB_f ht
  rw [List.drop_of_length_le (by omega),List.drop_of_length_le (by omega)] at hi
  simp [hi,sameB,oneOrTuple]
theorem pf52 (xs ys:List Str)(hx:xs.length≤100000):Pf A 52 [.d (strs' xs),.d (strs' ys)] (.d (.bool (sameB seB xs ys))):=by
 refine Pf.run [.d (strs' xs),.d (strs' ys),.any,.any] rfl rfl rfl rfl ?_
 repeat' (first|refine gx ?_|refine Ex.condP ?_|refine Ex.condN ?_|refine Ex.cond rfl (fun ht=> ?_) (fun ht=> ?_)|refine Ex.test (Rn.text ?_)|refine Ex.test (Rn.draw ?_)|refine ⟨_,rfl,fun ht=> ?_,fun ht=> ?_⟩|refine ⟨_,rfl,?_⟩|fail)
 ·have h1:xs.length≠ys.length:=by simp [eqB_eq] at ht;omega
  simp [sameB_len h1,oneOrTuple]
 have hl:xs.length=ys.length:=by simp [eqB_eq] at ht;omega
 refine Ex.loopS (fun k T H=>∃ (i:Nat) (v:AVal),T=[.d (strs' xs),.d (strs' ys),v,.d (num i)]∧H=[]∧i+k=xs.length∧sameB seB xs ys=sameB seB (xs.drop i) (ys.drop i)) (by rintro _ _ _ ⟨_,_,_,rfl,_⟩;rfl) ?_ (k:=xs.length) ⟨0,_,rfl,rfl,by simp,by simp⟩
 rintro k _ _ ⟨i,v,rfl,rfl,hk,hi⟩
 refine Ex.nT ?_
 repeat' (first|refine gx ?_|refine Ex.condP ?_|refine Ex.condN ?_|refine Ex.cond rfl (fun ht=> ?_) (fun ht=> ?_)|refine Ex.test (Rn.text ?_)|refine Ex.test (Rn.draw ?_)|refine ⟨_,rfl,fun ht=> ?_,fun ht=> ?_⟩|refine ⟨_,rfl,?_⟩|fail)
 ·have h1:=ltB_t ‹ltB i _=true›
  rw [drop_nth (by omega),drop_nth (l:=ys) (by omega)] at hi
  simp only [Bool.not_eq_true'] at ht
  simp [hi,sameB,ht,oneOrTuple]
 ·have h1:=ltB_t ‹ltB i _=true›
  rw [drop_nth (by omega),drop_nth (l:=ys) (by omega)] at hi
  simp only [Bool.not_eq_false'] at ht
  exact ⟨k - 1,by omega,i+1,_,rfl,rfl,by omega,by simp [hi,sameB,ht]⟩
 ·have h1:=ltB_f ht
  rw [List.drop_of_length_le (by omega),List.drop_of_length_le (by omega)] at hi
  simp [hi,sameB,oneOrTuple]
theorem pf117 (xs ys:List Int)(hx:xs.length≤100000):Pf A 117 [.d (ints xs),.d (ints ys)] (.d (.bool (sameB eqB xs ys))):=by
 refine Pf.run [.d (ints xs),.d (ints ys),.any,.any,.any,.any] rfl rfl rfl rfl ?_
 repeat' (first|refine gx ?_|refine Ex.condP ?_|refine Ex.condN ?_|refine Ex.cond rfl (fun ht=> ?_) (fun ht=> ?_)|refine Ex.test (Rn.text ?_)|refine Ex.test (Rn.draw ?_)|refine ⟨_,rfl,fun ht=> ?_,fun ht=> ?_⟩|refine ⟨_,rfl,?_⟩|fail)
 ·have h1:xs.length≠ys.length:=by simp [eqB_eq] at ht;omega
  simp [sameB_len h1,oneOrTuple]
 have hl:xs.length=ys.length:=by simp [eqB_eq] at ht;omega
 refine Ex.loopS (fun k T H=>∃ (i:Nat) (v w:AVal),T=[.d (ints xs),.d (ints ys),v,w,.d (num xs.length),.d (num i)]∧H=[]∧i+k=xs.length∧sameB eqB xs ys=sameB eqB (xs.drop i) (ys.drop i)) (by rintro _ _ _ ⟨_,_,_,_,rfl,_⟩;rfl) ?_ (k:=xs.length) ⟨0,_,_,rfl,rfl,by simp,by simp⟩
 rintro k _ _ ⟨i,v,w,rfl,rfl,hk,hi⟩
 refine Ex.nT ?_
 repeat' (first|refine gx ?_|refine Ex.condP ?_|refine Ex.condN ?_|refine Ex.cond rfl (fun ht=> ?_) (fun ht=> ?_)|refine Ex.test (Rn.text ?_)|refine Ex.test (Rn.draw ?_)|refine ⟨_,rfl,fun ht=> ?_,fun ht=> ?_⟩|refine ⟨_,rfl,?_⟩|fail)
 ·have h1:=ltB_t ‹ltB i _=true›
  rw [drop_nth (by omega),drop_nth (l:=ys) (by omega)] at hi
  simp only [Bool.not_eq_true'] at ht
  simp [hi,sameB,ht,oneOrTuple]
 ·have h1:=ltB_t ‹ltB i _=true›
  rw [drop_nth (by omega),drop_nth (l:=ys) (by omega)] at hi
  simp only [Bool.not_eq_false'] at ht
  exact ⟨k - 1,by omega,i+1,_,_,rfl,rfl,by omega,by simp [hi,sameB,ht]⟩
 ·have h1:=ltB_f ht
  rw [List.drop_of_length_le (by omega),List.drop_of_length_le (by omega)] at hi
  simp [hi,sameB,oneOrTuple]
end Go.Proofs.YtkmclibmmlgogaaGreat
namespace Go.Proofs.YtkmclibmmlgogaaGreat
open Go.Abs Go.Abs.S
attribute [local irreducible] Rx Ry Rn Ex Pf
def encS (s:Str):List Abs.Data:=[.str s]
def encI (n:Int):List Abs.Data:=[num n]
set_option maxHeartbeats 4000000 in
theorem pf63 (c:Cat)(hf:c.few):Pf A 63 [cat c] (.d (encL encS c.names)):=by
 obtain ⟨f0,f1,f2,f3,f4,f5,f6,f7⟩:=hf
 refine Pf.run [cat c,.any,.any,.any,.any,.any,.any,.any,.any,.any,.any,.any] rfl rfl rfl rfl ?_
 repeat' (first|refine gx ?_|fail)
 refine Ex.loopS (fun k T H=>∃ (i:Nat) (acc:List Str) (v0 v2 w5 w6 w7 w8 w9 w10 w11:AVal),T=[v0,.ptr 0 0,v2,ownL 1 encS acc,.d (num i),w5,w6,w7,w8,w9,w10,w11]∧H=[.cells (c.enc.map .d)]∧i+k=c.tabs.length∧acc=([]:List Str)++(c.tabs.take i).map Tab.name) (by rintro _ _ _ ⟨_,_,_,_,_,_,_,_,_,_,_,_,rfl,_⟩;rfl) ?_ (k:=c.tabs.length) ⟨0,([]:List Str),_,_,_,_,_,_,_,_,_,rfl,rfl,by simp,by simp⟩
 rintro k _ _ ⟨i,acc,v0,v2,w5,w6,w7,w8,w9,w10,w11,rfl,rfl,hk,hacc⟩
 have hl:acc.length=0+i:=by rw [hacc];simp;omega
 refine Ex.nT ?_
 repeat' (first|refine gx ?_|refine Ex.condP ?_|refine Ex.condN ?_|refine Ex.cond rfl (fun ht=> ?_) (fun ht=> ?_)|refine Ex.test (Rn.text ?_)|refine Ex.test (Rn.draw ?_)|refine ⟨_,rfl,fun ht=> ?_,fun ht=> ?_⟩|refine ⟨_,rfl,?_⟩|fail)
 ·have h1:=ltB_t ht
  refine ⟨k - 1,by omega,i+1,acc++[(nth c.tabs i).name],_,_,_,_,_,_,_,_,_,rfl,rfl,by omega,?_⟩
  rw [take_nth (by omega),hacc]
  simp
 have h1:=ltB_f ht
 rw [List.take_of_length_le (by omega)] at hacc
 clear ht h1 hk hl
 subst hacc
 refine Ex.loopS (fun k T H=>∃ (i:Nat) (acc:List Str) (v0 v2 w4 w6 w7 w8 w9 w10 w11:AVal),T=[v0,.ptr 0 0,v2,ownL 1 encS acc,w4,.d (num i),w6,w7,w8,w9,w10,w11]∧H=[.cells (c.enc.map .d)]∧i+k=c.views.length∧acc=c.tabs.map Tab.name++(c.views.take i).map Vw.name) (by rintro _ _ _ ⟨_,_,_,_,_,_,_,_,_,_,_,_,rfl,_⟩;rfl) ?_ (k:=c.views.length) ⟨0,c.tabs.map Tab.name,_,_,_,_,_,_,_,_,_,rfl,rfl,by simp,by simp⟩
 rintro k _ _ ⟨i,acc,v0,v2,w4,w6,w7,w8,w9,w10,w11,rfl,rfl,hk,hacc⟩
 have hl:acc.length=0+c.tabs.length+i:=by rw [hacc];simp;omega
 refine Ex.nT ?_
 repeat' (first|refine gx ?_|refine Ex.condP ?_|refine Ex.condN ?_|refine Ex.cond rfl (fun ht=> ?_) (fun ht=> ?_)|refine Ex.test (Rn.text ?_)|refine Ex.test (Rn.draw ?_)|refine ⟨_,rfl,fun ht=> ?_,fun ht=> ?_⟩|refine ⟨_,rfl,?_⟩|fail)
 ·have h1:=ltB_t ht
  refine ⟨k - 1,by omega,i+1,acc++[(nth c.views i).name],_,_,_,_,_,_,_,_,_,rfl,rfl,by omega,?_⟩
  rw [take_nth (by omega),hacc]
  simp
 have h1:=ltB_f ht
 rw [List.take_of_length_le (by omega)] at hacc
 clear ht h1 hk hl
 subst hacc
 refine Ex.loopS (fun k T H=>∃ (i:Nat) (acc:List Str) (v0 v2 w4 w5 w7 w8 w9 w10 w11:AVal),T=[v0,.ptr 0 0,v2,ownL 1 encS acc,w4,w5,.d (num i),w7,w8,w9,w10,w11]∧H=[.cells (c.enc.map .d)]∧i+k=c.idxs.length∧acc=c.tabs.map Tab.name++c.views.map Vw.name++(c.idxs.take i).map Idx.name) (by rintro _ _ _ ⟨_,_,_,_,_,_,_,_,_,_,_,_,rfl,_⟩;rfl) ?_ (k:=c.idxs.length) ⟨0,c.tabs.map Tab.name++c.views.map Vw.name,_,_,_,_,_,_,_,_,_,rfl,rfl,by simp,by simp⟩
 rintro k _ _ ⟨i,acc,v0,v2,w4,w5,w7,w8,w9,w10,w11,rfl,rfl,hk,hacc⟩
 have hl:acc.length=0+c.tabs.length+c.views.length+i:=by rw [hacc];simp;omega
 refine Ex.nT ?_
 repeat' (first|refine gx ?_|refine Ex.condP ?_|refine Ex.condN ?_|refine Ex.cond rfl (fun ht=> ?_) (fun ht=> ?_)|refine Ex.test (Rn.text ?_)|refine Ex.test (Rn.draw ?_)|refine ⟨_,rfl,fun ht=> ?_,fun ht=> ?_⟩|refine ⟨_,rfl,?_⟩|fail)
 ·have h1:=ltB_t ht
  refine ⟨k - 1,by omega,i+1,acc++[(nth c.idxs i).name],_,_,_,_,_,_,_,_,_,rfl,rfl,by omega,?_⟩
  rw [take_nth (by omega),hacc]
  simp
 have h1:=ltB_f ht
 rw [List.take_of_length_le (by omega)] at hacc
 clear ht h1 hk hl
 subst hacc
 refine Ex.loopS (fun k T H=>∃ (i:Nat) (acc:List Str) (v0 v2 w4 w5 w6 w8 w9 w10 w11:AVal),T=[v0,.ptr 0 0,v2,ownL 1 encS acc,w4,w5,w6,.d (num i),w8,w9,w10,w11]∧H=[.cells (c.enc.map .d)]∧i+k=c.skts.length∧acc=c.tabs.map Tab.name++c.views.map Vw.name++c.idxs.map Idx.name++(c.skts.take i).map Skt.name) (by rintro _ _ _ ⟨_,_,_,_,_,_,_,_,_,_,_,_,rfl,_⟩;rfl) ?_ (k:=c.skts.length) ⟨0,c.tabs.map Tab.name++c.views.map Vw.name++c.idxs.map Idx.name,_,_,_,_,_,_,_,_,_,rfl,rfl,by simp,by simp⟩
 rintro k _ _ ⟨i,acc,v0,v2,w4,w5,w6,w8,w9,w10,w11,rfl,rfl,hk,hacc⟩
 have hl:acc.length=0+c.tabs.length+c.views.length+c.idxs.length+i:=by rw [hacc];simp;omega
 refine Ex.nT ?_
 repeat' (first|refine gx ?_|refine Ex.condP ?_|refine Ex.condN ?_|refine Ex.cond rfl (fun ht=> ?_) (fun ht=> ?_)|refine Ex.test (Rn.text ?_)|refine Ex.test (Rn.draw ?_)|refine ⟨_,rfl,fun ht=> ?_,fun ht=> ?_⟩|refine ⟨_,rfl,?_⟩|fail)
 ·have h1:=ltB_t ht
  refine ⟨k - 1,by omega,i+1,acc++[(nth c.skts i).name],_,_,_,_,_,_,_,_,_,rfl,rfl,by omega,?_⟩
  rw [take_nth (by omega),hacc]
  simp
 have h1:=ltB_f ht
 rw [List.take_of_length_le (by omega)] at hacc
 clear ht h1 hk hl
 subst hacc
 refine Ex.loopS (fun k T H=>∃ (i:Nat) (acc:List Str) (v0 v2 w4 w5 w6 w7 w9 w10 w11:AVal),T=[v0,.ptr 0 0,v2,ownL 1 encS acc,w4,w5,w6,w7,.d (num i),w9,w10,w11]∧H=[.cells (c.enc.map .d)]∧i+k=c.cchs.length∧acc=c.tabs.map Tab.name++c.views.map Vw.name++c.idxs.map Idx.name++c.skts.map Skt.name++(c.cchs.take i).map Cch.name) (by rintro _ _ _ ⟨_,_,_,_,_,_,_,_,_,_,_,_,rfl,_⟩;rfl) ?_ (k:=c.cchs.length) ⟨0,c.tabs.map Tab.name++c.views.map Vw.name++c.idxs.map Idx.name++c.skts.map Skt.name,_,_,_,_,_,_,_,_,_,rfl,rfl,by simp,by simp⟩
 rintro k _ _ ⟨i,acc,v0,v2,w4,w5,w6,w7,w9,w10,w11,rfl,rfl,hk,hacc⟩
 have hl:acc.length=0+c.tabs.length+c.views.length+c.idxs.length+c.skts.length+i:=by rw [hacc];simp;omega
 refine Ex.nT ?_
 repeat' (first|refine gx ?_|refine Ex.condP ?_|refine Ex.condN ?_|refine Ex.cond rfl (fun ht=> ?_) (fun ht=> ?_)|refine Ex.test (Rn.text ?_)|refine Ex.test (Rn.draw ?_)|refine ⟨_,rfl,fun ht=> ?_,fun ht=> ?_⟩|refine ⟨_,rfl,?_⟩|fail)
 ·have h1:=ltB_t ht
  refine ⟨k - 1,by omega,i+1,acc++[(nth c.cchs i).name],_,_,_,_,_,_,_,_,_,rfl,rfl,by omega,?_⟩
  rw [take_nth (by omega),hacc]
  simp
 have h1:=ltB_f ht
 rw [List.take_of_length_le (by omega)] at hacc
 clear ht h1 hk hl
 subst hacc
 refine Ex.loopS (fun k T H=>∃ (i:Nat) (acc:List Str) (v0 v2 w4 w5 w6 w7 w8 w10 w11:AVal),T=[v0,.ptr 0 0,v2,ownL 1 encS acc,w4,w5,w6,w7,w8,.d (num i),w10,w11]∧H=[.cells (c.enc.map .d)]∧i+k=c.rlss.length∧acc=c.tabs.map Tab.name++c.views.map Vw.name++c.idxs.map Idx.name++c.skts.map Skt.name++c.cchs.map Cch.name++(c.rlss.take i).map Rls.name) (by rintro _ _ _ ⟨_,_,_,_,_,_,_,_,_,_,_,_,rfl,_⟩;rfl) ?_ (k:=c.rlss.length) ⟨0,c.tabs.map Tab.name++c.views.map Vw.name++c.idxs.map Idx.name++c.skts.map Skt.name++c.cchs.map Cch.name,_,_,_,_,_,_,_,_,_,rfl,rfl,by simp,by simp⟩
 rintro k _ _ ⟨i,acc,v0,v2,w4,w5,w6,w7,w8,w10,w11,rfl,rfl,hk,hacc⟩
 have hl:acc.length=0+c.tabs.length+c.views.length+c.idxs.length+c.skts.length+c.cchs.length+i:=by rw [hacc];simp;omega
 refine Ex.nT ?_
 repeat' (first|refine gx ?_|refine Ex.condP ?_|refine Ex.condN ?_|refine Ex.cond rfl (fun ht=> ?_) (fun ht=> ?_)|refine Ex.test (Rn.text ?_)|refine Ex.test (Rn.draw ?_)|refine ⟨_,rfl,fun ht=> ?_,fun ht=> ?_⟩|refine ⟨_,rfl,?_⟩|fail)
 ·have h1:=ltB_t ht
  refine ⟨k - 1,by omega,i+1,acc++[(nth c.rlss i).name],_,_,_,_,_,_,_,_,_,rfl,rfl,by omega,?_⟩
  rw [take_nth (by omega),hacc]
  simp
 have h1:=ltB_f ht
 rw [List.take_of_length_le (by omega)] at hacc
 clear ht h1 hk hl
 subst hacc
 refine Ex.loopS (fun k T H=>∃ (i:Nat) (acc:List Str) (v0 v2 w4 w5 w6 w7 w8 w9 w11:AVal),T=[v0,.ptr 0 0,v2,ownL 1 encS acc,w4,w5,w6,w7,w8,w9,.d (num i),w11]∧H=[.cells (c.enc.map .d)]∧i+k=c.stms.length∧acc=c.tabs.map Tab.name++c.views.map Vw.name++c.idxs.map Idx.name++c.skts.map Skt.name++c.cchs.map Cch.name++c.rlss.map Rls.name++(c.stms.take i).map Stm.name) (by rintro _ _ _ ⟨_,_,_,_,_,_,_,_,_,_,_,_,rfl,_⟩;rfl) ?_ (k:=c.stms.length) ⟨0,c.tabs.map Tab.name++c.views.map Vw.name++c.idxs.map Idx.name++c.skts.map Skt.name++c.cchs.map Cch.name++c.rlss.map Rls.name,_,_,_,_,_,_,_,_,_,rfl,rfl,by simp,by simp⟩
 rintro k _ _ ⟨i,acc,v0,v2,w4,w5,w6,w7,w8,w9,w11,rfl,rfl,hk,hacc⟩
 have hl:acc.length=0+c.tabs.length+c.views.length+c.idxs.length+c.skts.length+c.cchs.length+c.rlss.length+i:=by rw [hacc];simp;omega
 refine Ex.nT ?_
 repeat' (first|refine gx ?_|refine Ex.condP ?_|refine Ex.condN ?_|refine Ex.cond rfl (fun ht=> ?_) (fun ht=> ?_)|refine Ex.test (Rn.text ?_)|refine Ex.test (Rn.draw ?_)|refine ⟨_,rfl,fun ht=> ?_,fun ht=> ?_⟩|refine ⟨_,rfl,?_⟩|fail)
 ·have h1:=ltB_t ht
  refine ⟨k - 1,by omega,i+1,acc++[(nth c.stms i).name],_,_,_,_,_,_,_,_,_,rfl,rfl,by omega,?_⟩
  rw [take_nth (by omega),hacc]
  simp
 have h1:=ltB_f ht
 rw [List.take_of_length_le (by omega)] at hacc
 clear ht h1 hk hl
 subst hacc
 refine Ex.loopS (fun k T H=>∃ (i:Nat) (acc:List Str) (v0 v2 w4 w5 w6 w7 w8 w9 w10:AVal),T=[v0,.ptr 0 0,v2,ownL 1 encS acc,w4,w5,w6,w7,w8,w9,w10,.d (num i)]∧H=[.cells (c.enc.map .d)]∧i+k=c.bkps.length∧acc=c.tabs.map Tab.name++c.views.map Vw.name++c.idxs.map Idx.name++c.skts.map Skt.name++c.cchs.map Cch.name++c.rlss.map Rls.name++c.stms.map Stm.name++(c.bkps.take i).map Bkp.name) (by rintro _ _ _ ⟨_,_,_,_,_,_,_,_,_,_,_,_,rfl,_⟩;rfl) ?_ (k:=c.bkps.length) ⟨0,c.tabs.map Tab.name++c.views.map Vw.name++c.idxs.map Idx.name++c.skts.map Skt.name++c.cchs.map Cch.name++c.rlss.map Rls.name++c.stms.map Stm.name,_,_,_,_,_,_,_,_,_,rfl,rfl,by simp,by simp⟩
 rintro k _ _ ⟨i,acc,v0,v2,w4,w5,w6,w7,w8,w9,w10,rfl,rfl,hk,hacc⟩
 have hl:acc.length=0+c.tabs.length+c.views.length+c.idxs.length+c.skts.length+c.cchs.length+c.rlss.length+c.stms.length+i:=by rw [hacc];simp;omega
 refine Ex.nT ?_
 repeat' (first|refine gx ?_|refine Ex.condP ?_|refine Ex.condN ?_|refine Ex.cond rfl (fun ht=> ?_) (fun ht=> ?_)|refine Ex.test (Rn.text ?_)|refine Ex.test (Rn.draw ?_)|refine ⟨_,rfl,fun ht=> ?_,fun ht=> ?_⟩|refine ⟨_,rfl,?_⟩|fail)
 ·have h1:=ltB_t ht
  refine ⟨k - 1,by omega,i+1,acc++[(nth c.bkps i).name],_,_,_,_,_,_,_,_,_,rfl,rfl,by omega,?_⟩
  rw [take_nth (by omega),hacc]
  simp
 have h1:=ltB_f ht
 rw [List.take_of_length_le (by omega)] at hacc
 clear ht h1 hk hl
 subst hacc
 simp [oneOrTuple,encL,ownL,Cat.names]
end Go.Proofs.YtkmclibmmlgogaaGreat
