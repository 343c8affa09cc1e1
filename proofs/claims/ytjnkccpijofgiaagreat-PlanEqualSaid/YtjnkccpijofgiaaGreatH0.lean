/-
  The program without its primitives, and with them.; Lists compared: versions, sources, numbers.; Plans compared: the program's Equal and the reference's Same.; The reference's Same.
  (Put together by a small program out of several texts; blanks left out to keep the folder small.)
-/
import Derived.Test.YtjnkccpijofgiaaGreatAbs
import Derived.Test.YtjnkccpijofgiaaGreatB6
set_option linter.unusedVariables false
set_option linter.unusedSimpArgs false
namespace Go.Proofs.YtjnkccpijofgiaaGreat
open Go.Abs
def A0:Go.Abs.Prog:=⟨fnOf,idleOf,modeOf,fun _=>none⟩
theorem A0_ok:ProgOK Tryz.prog A0:=⟨A_idle,fun f p h=>(by cases h),fun f af _ h=>A_fn f af h⟩
theorem up {f:FuncId}{args:List AVal}{v:AVal}(h:Pf A0 f args v):Pf A f args v:=by
 refine Pf.more (A:=A0) (B:=A) rfl rfl rfl (fun g _=> ?_) (fun g p hp=>by cases hp) h
 unfold A
 simp only
 by_cases h1:g=209
 ·subst h1;exact Or.inr rfl
 by_cases h2:g=215
 ·subst h2;exact Or.inr rfl
 by_cases h3:g=40
 ·subst h3;exact Or.inr rfl
 by_cases h4:g=41
 ·subst h4;exact Or.inr rfl
 by_cases h5:g=100
 ·subst h5;exact Or.inr rfl
 by_cases h6:g=107
 ·subst h6;exact Or.inr rfl
 by_cases h7:g=8
 ·subst h7;exact Or.inr rfl
 simp only [h1,h2,h3,h4,h5,h6,h7,if_false]
 exact Or.inl trivial
end Go.Proofs.YtjnkccpijofgiaaGreat
namespace Go.Proofs.YtjnkccpijofgiaaGreat
open Go.Abs Go.Abs.S
attribute [local irreducible] Rx Ry Rn Ex Pf
abbrev V3:=Int×Int×Int
abbrev V2:=Int×Int
def enc3 (v:V3):List Abs.Data:=[num v.1,num v.2.1,num v.2.2]
def enc2 (v:V2):List Abs.Data:=[num v.1,num v.2]
def eq3 (a b:V3):Bool:=a.1==b.1&&(a.2.1==b.2.1&&(a.2.2==b.2.2&&true))
def eq2 (a b:V2):Bool:=a.1==b.1&&(a.2==b.2&&true)
def v3s (l:List V3):Abs.Data:=encL enc3 l
def v2s (l:List V2):Abs.Data:=encL enc2 l
def sameB {α:Type}(eq:α→α→Bool):List α→List α→Bool
 |[],[]=>true
 |a::l,c::m=>eq a c&&sameB eq l m
 |_,_=>false
theorem sameB_len {α:Type}{eq:α→α→Bool}:∀ {l m:List α},l.length≠m.length→sameB eq l m=false
 |[],[],h=>absurd rfl h
 |[],_::_,_=>rfl
 |_::_,[],_=>rfl
 |a::l,c::m,h=>by simp only [sameB,sameB_len (l:=l) (m:=m) (by simpa using h),Bool.and_false]
theorem pf12 (xs ys:List Int)(hx:xs.length≤9223372036854775807):Pf A0 12 [.d (ints xs),.d (ints ys)] (.d (.bool (sameB eqB xs ys))):=by
 refine Pf.run [.d (ints xs),.d (ints ys),.any,.any] rfl rfl rfl rfl ?_
 repeat' (first|refine gx ?_|refine Ex.condP ?_|refine Ex.condN ?_|refine Ex.cond rfl (fun ht=> ?_) (fun ht=> ?_)|refine Ex.test (Rn.text ?_)|refine Ex.test (Rn.draw ?_)|refine ⟨_,rfl,fun ht=> ?_,fun ht=> ?_⟩|refine ⟨_,rfl,?_⟩|fail)
 ·have h1:xs.length≠ys.length:=by simp [eqB_eq] at ht;omega
  simp [sameB_len h1,oneOrTuple]
 have hl:xs.length=ys.length:=by simp [eqB_eq] at ht;omega
 refine Ex.loopS (fun k T H=>∃ (i:Nat) (v:AVal),T=[.d (ints xs),.d (ints ys),v,.d (num i)]∧H=[]∧i+k=xs.length∧sameB eqB xs ys=sameB eqB (xs.drop i) (ys.drop i)) (by rintro _ _ _ ⟨_,_,_,rfl,_⟩;rfl) ?_ (k:=xs.length) ⟨0,_,rfl,rfl,by simp,by simp⟩
 rintro k _ _ ⟨i,v,rfl,rfl,hk,hi⟩
 refine Ex.nT ?_
 repeat' (first|refine gx ?_|refine Ex.condP ?_|refine Ex.condN ?_|refine Ex.cond rfl (fun ht=> ?_) (fun ht=> ?_)|refine Ex.test (Rn.text ?_)|refine Ex.test (Rn.draw ?_)|refine ⟨_,rfl,fun ht=> ?_,fun ht=> ?_⟩|refine ⟨_,rfl,?_⟩|fail)
 ·have h1:=ltB_t ‹ltB i _=true›
  rw [drop_nth (by omega),drop_nth (l:=ys) (by omega)] at hi
  simp only [Bool.not_eq_true',Bool.true_bne] at ht
  replace ht:eqB (nth xs i) (nth ys i)=false:=ht
  simp [hi,sameB,ht,oneOrTuple]
 ·have h1:=ltB_t ‹ltB i _=true›
  rw [drop_nth (by omega),drop_nth (l:=ys) (by omega)] at hi
  simp only [Bool.not_eq_false',Bool.true_bne] at ht
  replace ht:eqB (nth xs i) (nth ys i)=true:=ht
  exact ⟨k - 1,by omega,i+1,_,rfl,rfl,by omega,by simp [hi,sameB,ht]⟩
 ·have h1:=ltB_f ht
  rw [List.drop_of_length_le (by omega),List.drop_of_length_le (by omega)] at hi
  simp [hi,sameB,oneOrTuple]
theorem pf36 (xs ys:List V3)(hx:xs.length≤9223372036854775807):Pf A0 36 [.d (v3s xs),.d (v3s ys)] (.d (.bool (sameB eq3 xs ys))):=by
 refine Pf.run [.d (v3s xs),.d (v3s ys),.any,.any] rfl rfl rfl rfl ?_
 repeat' (first|refine gx ?_|refine Ex.condP ?_|refine Ex.condN ?_|refine Ex.cond rfl (fun ht=> ?_) (fun ht=> ?_)|refine Ex.test (Rn.text ?_)|refine Ex.test (Rn.draw ?_)|refine ⟨_,rfl,fun ht=> ?_,fun ht=> ?_⟩|refine ⟨_,rfl,?_⟩|fail)
 ·have h1:xs.length≠ys.length:=by simp [eqB_eq] at ht;omega
  simp [sameB_len h1,oneOrTuple]
 have hl:xs.length=ys.length:=by simp [eqB_eq] at ht;omega
 refine Ex.loopS (fun k T H=>∃ (i:Nat) (v:AVal),T=[.d (v3s xs),.d (v3s ys),v,.d (num i)]∧H=[]∧i+k=xs.length∧sameB eq3 xs ys=sameB eq3 (xs.drop i) (ys.drop i)) (by rintro _ _ _ ⟨_,_,_,rfl,_⟩;rfl) ?_ (k:=xs.length) ⟨0,_,rfl,rfl,by simp,by simp⟩
 rintro k _ _ ⟨i,v,rfl,rfl,hk,hi⟩
 refine Ex.nT ?_
 repeat' (first|refine gx ?_|refine Ex.condP ?_|refine Ex.condN ?_|refine Ex.cond rfl (fun ht=> ?_) (fun ht=> ?_)|refine Ex.test (Rn.text ?_)|refine Ex.test (Rn.draw ?_)|refine ⟨_,rfl,fun ht=> ?_,fun ht=> ?_⟩|refine ⟨_,rfl,?_⟩|fail)
 ·have h1:=ltB_t ‹ltB i _=true›
  rw [drop_nth (by omega),drop_nth (l:=ys) (by omega)] at hi
  simp only [Bool.not_eq_true',Bool.true_bne] at ht
  replace ht:eq3 (nth xs i) (nth ys i)=false:=ht
  simp [hi,sameB,ht,oneOrTuple]
 ·have h1:=ltB_t ‹ltB i _=true›
  rw [drop_nth (by omega),drop_nth (l:=ys) (by omega)] at hi
  simp only [Bool.not_eq_false',Bool.true_bne] at ht
  replace ht:eq3 (nth xs i) (nth ys i)=true:=ht
  exact ⟨k - 1,by omega,i+1,_,rfl,rfl,by omega,by simp [hi,sameB,ht]⟩
 ·have h1:=ltB_f ht
  rw [List.drop_of_length_le (by omega),List.drop_of_length_le (by omega)] at hi
  simp [hi,sameB,oneOrTuple]
theorem pf37 (xs ys:List V2)(hx:xs.length≤9223372036854775807):Pf A0 37 [.d (v2s xs),.d (v2s ys)] (.d (.bool (sameB eq2 xs ys))):=by
 refine Pf.run [.d (v2s xs),.d (v2s ys),.any,.any] rfl rfl rfl rfl ?_
 repeat' (first|refine gx ?_|refine Ex.condP ?_|refine Ex.condN ?_|refine Ex.cond rfl (fun ht=> ?_) (fun ht=> ?_)|refine Ex.test (Rn.text ?_)|refine Ex.test (Rn.draw ?_)|refine ⟨_,rfl,fun ht=> ?_,fun ht=> ?_⟩|refine ⟨_,rfl,?_⟩|fail)
 ·have h1:xs.length≠ys.length:=by simp [eqB_eq] at ht;omega
  simp [sameB_len h1,oneOrTuple]
 have hl:xs.length=ys.length:=by simp [eqB_eq] at ht;omega
 refine Ex.loopS (fun k T H=>∃ (i:Nat) (v:AVal),T=[.d (v2s xs),.d (v2s ys),v,.d (num i)]∧H=[]∧i+k=xs.length∧sameB eq2 xs ys=sameB eq2 (xs.drop i) (ys.drop i)) (by rintro _ _ _ ⟨_,_,_,rfl,_⟩;rfl) ?_ (k:=xs.length) ⟨0,_,rfl,rfl,by simp,by simp⟩
 rintro k _ _ ⟨i,v,rfl,rfl,hk,hi⟩
 refine Ex.nT ?_
 repeat' (first|refine gx ?_|refine Ex.condP ?_|refine Ex.condN ?_|refine Ex.cond rfl (fun ht=> ?_) (fun ht=> ?_)|refine Ex.test (Rn.text ?_)|refine Ex.test (Rn.draw ?_)|refine ⟨_,rfl,fun ht=> ?_,fun ht=> ?_⟩|refine ⟨_,rfl,?_⟩|fail)
 ·have h1:=ltB_t ‹ltB i _=true›
  rw [drop_nth (by omega),drop_nth (l:=ys) (by omega)] at hi
  simp only [Bool.not_eq_true',Bool.true_bne] at ht
  replace ht:eq2 (nth xs i) (nth ys i)=false:=ht
  simp [hi,sameB,ht,oneOrTuple]
 ·have h1:=ltB_t ‹ltB i _=true›
  rw [drop_nth (by omega),drop_nth (l:=ys) (by omega)] at hi
  simp only [Bool.not_eq_false',Bool.true_bne] at ht
  replace ht:eq2 (nth xs i) (nth ys i)=true:=ht
  exact ⟨k - 1,by omega,i+1,_,rfl,rfl,by omega,by simp [hi,sameB,ht]⟩
 ·have h1:=ltB_f ht
  rw [List.drop_of_length_le (by omega),List.drop_of_length_le (by omega)] at hi
  simp [hi,sameB,oneOrTuple]
theorem pf35 (xs ys:List Int)(hx:xs.length≤9223372036854775807):Pf A0 35 [.d (ints xs),.d (ints ys)] (.d (.bool (sameB eqB xs ys))):=by
 refine Pf.run [.d (ints xs),.d (ints ys),.any,.any,.any,.any] rfl rfl rfl rfl ?_
 repeat' (first|refine gx ?_|refine Ex.condP ?_|refine Ex.condN ?_|refine Ex.cond rfl (fun ht=> ?_) (fun ht=> ?_)|refine Ex.test (Rn.text ?_)|refine Ex.test (Rn.draw ?_)|refine ⟨_,rfl,fun ht=> ?_,fun ht=> ?_⟩|refine ⟨_,rfl,?_⟩|fail)
 ·have h1:xs.length≠ys.length:=by simp [eqB_eq] at ht;omega
  simp [sameB_len h1,oneOrTuple]
 have hl:xs.length=ys.length:=by simp [eqB_eq] at ht;omega
 refine Ex.loopS (fun k T H=>∃ (i:Nat) (v w:AVal),T=[.d (ints xs),.d (ints ys),v,w,.d (num xs.length),.d (num i)]∧H=[]∧i+k=xs.length∧sameB eqB xs ys=sameB eqB (xs.drop i) (ys.drop i)) (by rintro _ _ _ ⟨_,_,_,_,rfl,_⟩;rfl) ?_ (k:=xs.length) ⟨0,_,_,rfl,rfl,by simp,by simp⟩
 rintro k _ _ ⟨i,v,w,rfl,rfl,hk,hi⟩
 refine Ex.nT ?_
 repeat' (first|refine gx ?_|refine Ex.condP ?_|refine Ex.condN ?_|refine Ex.cond rfl (fun ht=> ?_) (fun ht=> ?_)|refine Ex.test (Rn.text ?_)|refine Ex.test (Rn.draw ?_)|refine ⟨_,rfl,fun ht=> ?_,fun ht=> ?_⟩|refine ⟨_,rfl,?_⟩|fail)
 ·have h1:=ltB_t ‹ltB i _=true›
  rw [drop_nth (by omega),drop_nth (l:=ys) (by omega)] at hi
  simp only [Bool.not_eq_true',Bool.true_bne] at ht
  replace ht:eqB (nth xs i) (nth ys i)=false:=ht
  simp [hi,sameB,ht,oneOrTuple]
 ·have h1:=ltB_t ‹ltB i _=true›
  rw [drop_nth (by omega),drop_nth (l:=ys) (by omega)] at hi
  simp only [Bool.not_eq_false',Bool.true_bne] at ht
  replace ht:eqB (nth xs i) (nth ys i)=true:=ht
  exact ⟨k - 1,by omega,i+1,_,_,rfl,rfl,by omega,by simp [hi,sameB,ht]⟩
 ·have h1:=ltB_f ht
  rw [List.drop_of_length_le (by omega),List.drop_of_length_le (by omega)] at hi
  simp [hi,sameB,oneOrTuple]
theorem pf31 (xs ys:List V3)(hx:xs.length≤9223372036854775807):Pf A0 31 [.d (v3s xs),.d (v3s ys)] (.d (.bool (sameB eq3 xs ys))):=by
 refine Pf.run [.d (v3s xs),.d (v3s ys),.any,.any,.any,.any] rfl rfl rfl rfl ?_
 repeat' (first|refine gx ?_|refine Ex.condP ?_|refine Ex.condN ?_|refine Ex.cond rfl (fun ht=> ?_) (fun ht=> ?_)|refine Ex.test (Rn.text ?_)|refine Ex.test (Rn.draw ?_)|refine ⟨_,rfl,fun ht=> ?_,fun ht=> ?_⟩|refine ⟨_,rfl,?_⟩|fail)
 ·have h1:xs.length≠ys.length:=by simp [eqB_eq] at ht;omega
  simp [sameB_len h1,oneOrTuple]
 have hl:xs.length=ys.length:=by simp [eqB_eq] at ht;omega
 refine Ex.loopS (fun k T H=>∃ (i:Nat) (v w:AVal),T=[.d (v3s xs),.d (v3s ys),v,w,.d (num xs.length),.d (num i)]∧H=[]∧i+k=xs.length∧sameB eq3 xs ys=sameB eq3 (xs.drop i) (ys.drop i)) (by rintro _ _ _ ⟨_,_,_,_,rfl,_⟩;rfl) ?_ (k:=xs.length) ⟨0,_,_,rfl,rfl,by simp,by simp⟩
 rintro k _ _ ⟨i,v,w,rfl,rfl,hk,hi⟩
 refine Ex.nT ?_
 repeat' (first|refine gx ?_|refine Ex.condP ?_|refine Ex.condN ?_|refine Ex.cond rfl (fun ht=> ?_) (fun ht=> ?_)|refine Ex.test (Rn.text ?_)|refine Ex.test (Rn.draw ?_)|refine ⟨_,rfl,fun ht=> ?_,fun ht=> ?_⟩|refine ⟨_,rfl,?_⟩|fail)
 ·have h1:=ltB_t ‹ltB i _=true›
  rw [drop_nth (by omega),drop_nth (l:=ys) (by omega)] at hi
  simp only [Bool.not_eq_true',Bool.true_bne] at ht
  replace ht:eq3 (nth xs i) (nth ys i)=false:=ht
  simp [hi,sameB,ht,oneOrTuple]
 ·have h1:=ltB_t ‹ltB i _=true›
  rw [drop_nth (by omega),drop_nth (l:=ys) (by omega)] at hi
  simp only [Bool.not_eq_false',Bool.true_bne] at ht
  replace ht:eq3 (nth xs i) (nth ys i)=true:=ht
  exact ⟨k - 1,by omega,i+1,_,_,rfl,rfl,by omega,by simp [hi,sameB,ht]⟩
 ·have h1:=ltB_f ht
  rw [List.drop_of_length_le (by omega),List.drop_of_length_le (by omega)] at hi
  simp [hi,sameB,oneOrTuple]
theorem pf32 (xs ys:List V2)(hx:xs.length≤9223372036854775807):Pf A0 32 [.d (v2s xs),.d (v2s ys)] (.d (.bool (sameB eq2 xs ys))):=by
 refine Pf.run [.d (v2s xs),.d (v2s ys),.any,.any,.any,.any] rfl rfl rfl rfl ?_
 repeat' (first|refine gx ?_|refine Ex.condP ?_|refine Ex.condN ?_|refine Ex.cond rfl (fun ht=> ?_) (fun ht=> ?_)|refine Ex.test (Rn.text ?_)|refine Ex.test (Rn.draw ?_)|refine ⟨_,rfl,fun ht=> ?_,fun ht=> ?_⟩|refine ⟨_,rfl,?_⟩|fail)
 ·have h1:xs.length≠ys.length:=by simp [eqB_eq] at ht;omega
  simp [sameB_len h1,oneOrTuple]
 have hl:xs.length=ys.length:=by simp [eqB_eq] at ht;omega
 refine Ex.loopS (fun k T H=>∃ (i:Nat) (v w:AVal),T=[.d (v2s xs),.d (v2s ys),v,w,.d (num xs.length),.d (num i)]∧H=[]∧i+k=xs.length∧sameB eq2 xs ys=sameB eq2 (xs.drop i) (ys.drop i)) (by rintro _ _ _ ⟨_,_,_,_,rfl,_⟩;rfl) ?_ (k:=xs.length) ⟨0,_,_,rfl,rfl,by simp,by simp⟩
 rintro k _ _ ⟨i,v,w,rfl,rfl,hk,hi⟩
 refine Ex.nT ?_
 repeat' (first|refine gx ?_|refine Ex.condP ?_|refine Ex.condN ?_|refine Ex.cond rfl (fun ht=> ?_) (fun ht=> ?_)|refine Ex.test (Rn.text ?_)|refine Ex.test (Rn.draw ?_)|refine ⟨_,rfl,fun ht=> ?_,fun ht=> ?_⟩|refine ⟨_,rfl,?_⟩|fail)
 ·have h1:=ltB_t ‹ltB i _=true›
  rw [drop_nth (by omega),drop_nth (l:=ys) (by omega)] at hi
  simp only [Bool.not_eq_true',Bool.true_bne] at ht
  replace ht:eq2 (nth xs i) (nth ys i)=false:=ht
  simp [hi,sameB,ht,oneOrTuple]
 ·have h1:=ltB_t ‹ltB i _=true›
  rw [drop_nth (by omega),drop_nth (l:=ys) (by omega)] at hi
  simp only [Bool.not_eq_false',Bool.true_bne] at ht
  replace ht:eq2 (nth xs i) (nth ys i)=true:=ht
  exact ⟨k - 1,by omega,i+1,_,_,rfl,rfl,by omega,by simp [hi,sameB,ht]⟩
 ·have h1:=ltB_f ht
  rw [List.drop_of_length_le (by omega),List.drop_of_length_le (by omega)] at hi
  simp [hi,sameB,oneOrTuple]
end Go.Proofs.YtjnkccpijofgiaaGreat
namespace Go.Proofs.YtjnkccpijofgiaaGreat
open Go.Abs Go.Abs.S
attribute [local irreducible] Rx Ry Rn Ex Pf
def eqSt (a b:PStep):Bool:=a.m==b.m&&((a.k==b.k&&(a.i==b.i&&true))&&(a.dl==b.dl&&sameB eqB a.af b.af))
theorem pf34 (a b:PStep)(ha:a.af.length≤9223372036854775807):Pf A0 34 [.agg [.d (num a.m),.d (num a.k),.d (num a.i),.d (ints a.af),.d (num a.dl)],.agg [.d (num b.m),.d (num b.k),.d (num b.i),.d (ints b.af),.d (num b.dl)]] (.d (.bool (eqSt a b))):=by
 refine Pf.run [.agg [.d (num a.m),.d (num a.k),.d (num a.i),.d (ints a.af),.d (num a.dl)],.agg [.d (num b.m),.d (num b.k),.d (num b.i),.d (ints b.af),.d (num b.dl)],.any,.any,.any] rfl rfl rfl rfl ?_
 repeat' (first|refine cl (pf35 a.af b.af ha) ?_|refine lqo ?_|refine gx ?_|refine fk (h1:=fun hw=> ?_) (h2:=fun hw=> ?_)|refine fpk (h1:=fun hw=> ?_) (h2:=fun hw=> ?_)|refine Ex.condP ?_|refine Ex.condN ?_|refine Ex.cond rfl (fun ht=> ?_) (fun ht=> ?_)|refine Ex.test (Rn.text ?_)|refine Ex.test (Rn.draw ?_)|refine ⟨_,rfl,fun ht=> ?_,fun ht=> ?_⟩|refine ⟨_,rfl,?_⟩|fail)
 all_goals simp_all [oneOrTuple,eqSt,eqB_eq]
set_option maxHeartbeats 2000000 in
theorem pf33 (xs ys:List PStep)(hx:xs.length≤9223372036854775807)(ha:∀ i,i<xs.length→(nth xs i).af.length≤9223372036854775807):Pf A0 33 [.d (stps xs),.d (stps ys),.func 34 [] []] (.d (.bool (sameB eqSt xs ys))):=by
 refine Pf.run [.d (stps xs),.d (stps ys),.func 34 [] [],.any,.any,.any,.any,.any,.any,.any] rfl rfl rfl rfl ?_
 repeat' (first|refine gx ?_|refine Ex.condP ?_|refine Ex.condN ?_|refine Ex.cond rfl (fun ht=> ?_) (fun ht=> ?_)|refine Ex.test (Rn.text ?_)|refine Ex.test (Rn.draw ?_)|refine ⟨_,rfl,fun ht=> ?_,fun ht=> ?_⟩|refine ⟨_,rfl,?_⟩|fail)
 ·have h1:xs.length≠ys.length:=by simp [eqB_eq] at ht;omega
  simp [sameB_len h1,oneOrTuple]
 have hl:xs.length=ys.length:=by simp [eqB_eq] at ht;omega
 refine Ex.loopC (fun k T H=>∃ i:Nat,T=[.any,.d (stps ys),.func 34 [] [],.any,.any,.any,.any,.d (stps xs),.d (num xs.length),.d (num i)]∧H=[]∧i+k=xs.length∧sameB eqSt xs ys=sameB eqSt (xs.drop i) (ys.drop i)) ?_ (k:=xs.length) ⟨0,rfl,rfl,by simp,by simp⟩
 rintro k _ _ ⟨i,rfl,rfl,hk,hi⟩
 refine Ex.seq ?_
 refine tb (ltB i xs.length) (fun h1=> ?_) (fun h1=> ?_)
 ·have h2:=ltB_t h1
  rw [drop_nth (by omega),drop_nth (l:=ys) (by omega)] at hi
  have p1:=pf34 (nth xs i) (nth ys i) (ha i (by omega))
  refine gr ?_
  refine tB (!eqSt (nth xs i) (nth ys i)) ?_ (fun h3=> ?_) (fun h3=> ?_)
  ·repeat' (first|refine cv p1 ?_|refine gx ?_|refine fk (h1:=fun hw=> ?_) (h2:=fun hw=> ?_)|refine fpk (h1:=fun hw=> ?_) (h2:=fun hw=> ?_)|refine ⟨rfl,rfl,_,rfl,?_⟩|refine ⟨rfl,rfl⟩|fail)
   all_goals exact cc
  ·simp only [Bool.not_eq_true'] at h3
   refine gr ?_
   exact ⟨_,rfl,by simp [hi,sameB,h3,oneOrTuple]⟩
  ·simp only [Bool.not_eq_false'] at h3
   refine gr ?_
   exact ⟨k - 1,by omega,_,_,rfl,i+1,rfl,rfl,by omega,by simp [hi,sameB,h3]⟩
 ·have h2:=ltB_f h1
  rw [List.drop_of_length_le (by omega),List.drop_of_length_le (by omega)] at hi
  refine gr ?_
  exact ⟨_,rfl,by simp [hi,sameB,oneOrTuple]⟩
structure Pln where
 vs:List V3
 ss:List V2
 st:List PStep
def planA (p:Pln):AVal:= .agg [.d (v3s p.vs),.d (v2s p.ss),.d (stps p.st)]
def eqP (p q:Pln):Bool:=sameB eq3 p.vs q.vs&&(sameB eq2 p.ss q.ss&&sameB eqSt p.st q.st)
structure Fits1 (p:Pln):Prop where
 vs:p.vs.length≤9223372036854775807
 ss:p.ss.length≤9223372036854775807
 st:p.st.length≤9223372036854775807
 af:∀ i,i<p.st.length→(nth p.st i).af.length≤9223372036854775807
theorem pf17 (p q:Pln)(hp:Fits1 p):Pf A0 17 [planA p,planA q] (.d (.bool (eqP p q))):=by
 refine Pf.run [planA p,planA q,.any,.any,.any] rfl rfl rfl rfl ?_
 repeat' (first|refine cl (pf31 p.vs q.vs hp.vs) ?_|refine cl (pf32 p.ss q.ss hp.ss) ?_|refine cl (pf33 p.st q.st hp.st hp.af) ?_|refine gx ?_|refine fk (h1:=fun hw=> ?_) (h2:=fun hw=> ?_)|refine fpk (h1:=fun hw=> ?_) (h2:=fun hw=> ?_)|refine Ex.condP ?_|refine Ex.condN ?_|refine Ex.cond rfl (fun ht=> ?_) (fun ht=> ?_)|refine Ex.test (Rn.text ?_)|refine Ex.test (Rn.draw ?_)|refine ⟨_,rfl,fun ht=> ?_,fun ht=> ?_⟩|refine ⟨_,rfl,?_⟩|fail)
 all_goals simp_all [oneOrTuple,eqP]
def fewB (p:Pln):Bool:=(p.st.all fun s=> !ltB 20 s.af.length)&&(leB p.st.length 20&&(leB p.vs.length 20&&leB p.ss.length 20))
theorem pf6 (p:Pln)(hp:Fits1 p):Pf A0 6 [planA p] (.d (.bool (fewB p))):=by
 refine Pf.run [planA p,.any,.any,.any] rfl rfl rfl rfl ?_
 refine gr ?_
 refine Ex.loopS (fun k T H=>∃ (i:Nat) (u v:AVal),T=[u,.ptr 0 0,v,.d (num i)]∧H=[.cells [.d (v3s p.vs),.d (v2s p.ss),.d (stps p.st)]]∧i+k=p.st.length∧fewB p=(((p.st.drop i).all fun s=> !ltB 20 s.af.length)&&(leB p.st.length 20&&(leB p.vs.length 20&&leB p.ss.length 20)))) (by rintro _ _ _ ⟨_,_,_,rfl,rfl,_⟩;rfl) ?_ (k:=p.st.length) ⟨0,_,_,rfl,rfl,by simp,by simp [fewB]⟩
 rintro k _ _ ⟨i,u,v,rfl,rfl,hk,hi⟩
 refine Ex.nT ?_
 refine Ex.seq ?_
 refine tb (ltB i p.st.length) (fun h1=> ?_) (fun h1=> ?_)
 ·have h2:=ltB_t h1
  have hl:=hp.st
  rw [drop_nth (by omega)] at hi
  refine gr ?_
  refine tb (ltB 20 (nth p.st i).af.length) (fun h3=> ?_) (fun h3=> ?_)
  ·refine gr ?_
   exact ⟨_,rfl,by simp [hi,h3,oneOrTuple]⟩
  ·refine gr ?_
   exact ⟨k - 1,by omega,i+1,_,_,rfl,rfl,by omega,by simp [hi,h3]⟩
 ·have h2:=ltB_f h1
  rw [List.drop_of_length_le (by omega)] at hi
  repeat' (first|refine gx ?_|refine fk (h1:=fun hw=> ?_) (h2:=fun hw=> ?_)|refine fpk (h1:=fun hw=> ?_) (h2:=fun hw=> ?_)|refine Ex.condP ?_|refine Ex.condN ?_|refine Ex.cond rfl (fun ht=> ?_) (fun ht=> ?_)|refine Ex.test (Rn.text ?_)|refine Ex.test (Rn.draw ?_)|refine ⟨_,rfl,fun ht=> ?_,fun ht=> ?_⟩|refine ⟨_,rfl,?_⟩|fail)
  all_goals simp_all [oneOrTuple]
end Go.Proofs.YtjnkccpijofgiaaGreat
namespace Go.Proofs.YtjnkccpijofgiaaGreat
open Go.Abs Go.Abs.S
attribute [local irreducible] Rx Ry Rn Ex Pf Rw
set_option maxHeartbeats 4000000 in
theorem pf18 (p q:Pln)(hp:Fits1 p)(hq:Fits1 q):Pf A0 18 [planA p,planA q] (.d (.bool (eqP p q))):=by
 refine Pf.run [planA p,planA q,.any,.any,.any,.any,.any,.any] rfl rfl rfl rfl ?_
 have p1:=pf36 p.vs q.vs hp.vs
 have p2:=pf37 p.ss q.ss hp.ss
 refine gr ?_
 refine tB (!sameB eq3 p.vs q.vs||(!sameB eq2 p.ss q.ss|| !eqB p.st.length q.st.length)) ?_ (fun h1=> ?_) (fun h1=> ?_)
 ·repeat' (first|refine cl (p1) ?_|refine cl (p2) ?_|refine gx ?_|refine fk (h1:=fun hw=> ?_) (h2:=fun hw=> ?_)|refine fpk (h1:=fun hw=> ?_) (h2:=fun hw=> ?_)|refine ⟨rfl,rfl,_,rfl,?_⟩|refine ⟨rfl,rfl⟩|fail)
  all_goals exact cc
 ·refine gr ?_
  refine ⟨_,rfl,?_⟩
  have:eqP p q=false:=by
   unfold eqP
   simp only [Bool.or_eq_true,Bool.not_eq_true',eqB_eq] at h1
   rcases h1 with h1|h1|h1
   ·simp [h1]
   ·simp [h1]
   ·rw [sameB_len (l:=p.st) (m:=q.st) (by simp [eqB_eq] at h1;omega)]
    simp
  simp [this,oneOrTuple]
 ·simp only [Bool.or_eq_false_iff,Bool.not_eq_false',eqB_eq] at h1
  obtain ⟨g1,g2,g3⟩:=h1
  have hl:p.st.length=q.st.length:=by simp [eqB_eq] at g3;omega
  have hs:=hp.st
  have he:eqP p q=sameB eqSt p.st q.st:=by simp [eqP,g1,g2]
  rw [he]
  refine gr ?_
  refine Ex.loopC (fun k T H=>∃ (i:Nat),T=[.any,.any,.ptr 0 0,.ptr 1 0,.any,.d (num i),.any,.any]∧H=[.cells [.d (v3s p.vs),.d (v2s p.ss),.d (stps p.st)],.cells [.d (v3s q.vs),.d (v2s q.ss),.d (stps q.st)]]∧i+k=p.st.length∧sameB eqSt p.st q.st=sameB eqSt (p.st.drop i) (q.st.drop i)) ?_ (k:=p.st.length) ⟨0,rfl,rfl,by simp,by simp⟩
  rintro k _ _ ⟨i,rfl,rfl,hk,hi⟩
  refine Ex.seq ?_
  refine tb (ltB i p.st.length) (fun h1=> ?_) (fun h1=> ?_)
  ·have h2:=ltB_t h1
   rw [drop_nth (by omega),drop_nth (l:=q.st) (by omega)] at hi
   have i1:i<p.st.length:=by omega
   have i2:i<q.st.length:=by omega
   have p3:=pf12 (nth p.st i).af (nth q.st i).af (hp.af i i1)
   refine Ex.skip ?_
   refine Ex.seq ?_
   refine Ex.block ?_
   refine Ex.seq ?_
   refine Ex.region ?_
   refine Rn.w 2 [.cells [.d (v3s p.vs),.d (v2s p.ss),.d (stps p.st)],.cells [.d (v3s q.vs),.d (v2s q.ss),.d (stps q.st)],.dead,.dead] [.slot 6,.slot 7] rfl rfl rfl rfl ?_
   repeat' (first|refine wfp ?_|refine wlp ?_|refine wm ?_|refine wix i1 ?_|refine wix i2 ?_|refine wle ?_|refine wal (h2:= ?_)|refine ws (h2:= ?_)|refine wn ?_|fail)
   refine tB (!eqSt (nth p.st i) (nth q.st i)) ?_ (fun h3=> ?_) (fun h3=> ?_)
   ·repeat' (first|refine cl (p3) ?_|refine lqo ?_|refine gx ?_|refine fk (h1:=fun hw=> ?_) (h2:=fun hw=> ?_)|refine fpk (h1:=fun hw=> ?_) (h2:=fun hw=> ?_)|refine ⟨rfl,rfl,_,rfl,?_⟩|refine ⟨rfl,rfl⟩|fail)
    all_goals first|(simp [*,oneOrTuple,eqSt];done)|(simp_all [oneOrTuple,eqSt];done)|(simp_all [oneOrTuple,eqSt,ltB_eq,leB_eq,eqB_eq,seB_eq];done)|(simp_all [oneOrTuple,eqSt,ltB_eq,leB_eq,eqB_eq,seB_eq]<;>omega)
   ·simp only [Bool.not_eq_true'] at h3
    refine gr ?_
    exact ⟨_,rfl,by simp [hi,sameB,h3,oneOrTuple]⟩
   ·simp only [Bool.not_eq_false'] at h3
    refine gr ?_
    exact ⟨k - 1,by omega,_,_,rfl,i+1,rfl,rfl,by omega,by simp [hi,sameB,h3]⟩
  ·have h2:=ltB_f h1
   rw [List.drop_of_length_le (by omega),List.drop_of_length_le (by omega)] at hi
   refine gr ?_
   exact ⟨_,rfl,by simp [hi,sameB,oneOrTuple]⟩
end Go.Proofs.YtjnkccpijofgiaaGreat
