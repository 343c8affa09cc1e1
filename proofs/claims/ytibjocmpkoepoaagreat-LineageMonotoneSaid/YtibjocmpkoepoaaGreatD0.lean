import Derived.Test.YtibjocmpkoepoaaGreatAbs
set_option linter.all false
open Bool renaming and_eq_true → c9, false_eq_true → j5, not_eq_false' → O1, not_eq_true' → o8, or_eq_false_iff → E6, or_eq_true → L5
open List renaming append_assoc → A9, drop_of_length_le → n5, length_append → n9, mem_cons → y7, take_of_length_le → A8
open Nat renaming lt_or_ge → s5
namespace Go.Proofs.YtibjocmpkoepoaaGreat
open Go.Abs Go.Abs.S
attribute [local irreducible] Rx Ry Rn Ex Pf
def cm (n:Int):Bool:=aF 97 n&&aF n 122
def jO (n:Int):Bool:=aF 48 n&&aF n 57
def lU (n:Int):Bool:=cm n||jO n||u0 n 95
def G7:L0->Bool
 |[]=>false
 |c::r=>F3 r.length 16&&cm c.toNat&&(c::r).all fun c=>lU c.toNat
def aE4 (n:Int):Pf A 197 [.d (.int .u8 n)] (.d (.bool (cm n))):=by
 refine Pf.run [.d (.int .u8 n),.any] rfl rfl rfl rfl ?_
 repeat' (first|refine gx ?_|refine fk (h1:=fun hw=> ?_) (h2:=fun hw=> ?_)|refine U0 (h1:=fun hw=> ?_) (h2:=fun hw=> ?_)|refine Ex.O6 ?_|refine Ex.O8 ?_|refine Ex.cond rfl (fun ht=> ?_) (fun ht=> ?_)|refine Ex.test (Rn.text ?_)|refine Ex.test (Rn.draw ?_)|refine ⟨_,rfl,fun ht=> ?_,fun ht=> ?_⟩|refine ⟨_,rfl,?_⟩|fail)
 all_goals simp_all [j9,cm]
def aC5 (n:Int):Pf A 244 [.d (.int .u8 n)] (.d (.bool (jO n))):=by
 refine Pf.run [.d (.int .u8 n),.any] rfl rfl rfl rfl ?_
 repeat' (first|refine gx ?_|refine fk (h1:=fun hw=> ?_) (h2:=fun hw=> ?_)|refine U0 (h1:=fun hw=> ?_) (h2:=fun hw=> ?_)|refine Ex.O6 ?_|refine Ex.O8 ?_|refine Ex.cond rfl (fun ht=> ?_) (fun ht=> ?_)|refine Ex.test (Rn.text ?_)|refine Ex.test (Rn.draw ?_)|refine ⟨_,rfl,fun ht=> ?_,fun ht=> ?_⟩|refine ⟨_,rfl,?_⟩|fail)
 all_goals simp_all [j9,jO]
def aZ2 (n:Int):Pf A 198 [.d (.int .u8 n)] (.d (.bool (lU n))):=by
 refine Pf.run [.d (.int .u8 n),.any] rfl rfl rfl rfl ?_
 repeat' (first|refine cl (aE4 _) ?_|refine cl (aC5 _) ?_|refine gx ?_|refine fk (h1:=fun hw=> ?_) (h2:=fun hw=> ?_)|refine U0 (h1:=fun hw=> ?_) (h2:=fun hw=> ?_)|refine Ex.O6 ?_|refine Ex.O8 ?_|refine Ex.cond rfl (fun ht=> ?_) (fun ht=> ?_)|refine Ex.test (Rn.text ?_)|refine Ex.test (Rn.draw ?_)|refine ⟨_,rfl,fun ht=> ?_,fun ht=> ?_⟩|refine ⟨_,rfl,?_⟩|fail)
 all_goals simp_all [j9,lU]
def al2 (s:L0):Pf A 143 [.d (.str s)] (.d (.bool (G7 s))):=by
 refine Pf.run [.d (.str s),.any,.any] rfl rfl rfl rfl ?_;refine gr ?_;refine Ex.Vz (match s with|[]=>true|c::r=> !(F3 r.length 16&&cm c.toNat)) (Rn.text ?_) (fun ht=> ?_) (fun ht=> ?_)
 .repeat' (first|refine cl (aE4 _) ?_|refine gx ?_|refine fk (h1:=fun hw=> ?_) (h2:=fun hw=> ?_)|refine U0 (h1:=fun hw=> ?_) (h2:=fun hw=> ?_)|refine ⟨rfl,rfl,_,rfl,?_⟩|refine ⟨rfl,rfl⟩|fail)
  all_goals cases s
  all_goals first|(simp [*,j9,U9];done)|(simp_all [j9,U9];done)|(simp_all [j9,U9,z8,y3,o9,F8];done)|(simp_all [j9,U9,z8,y3,o9,F8]<;>omega)
 .refine gr ?_
  refine ⟨_,rfl,?_⟩;cases s with
  |nil=>rfl
  |cons c r =>
   simp only [o8] at ht;simp only [G7,ht,j9,Bool.false_and]
 .cases s with
  |nil=>cases ht
  |cons c r =>
  have hl:=ht;simp [z8] at hl;have hb:(c::r).length<=16:=by simp;omega
  refine gr ?_;refine Ex.N5 (fun k T H=>∃ (i:Nat) (v:j3),T=[.d (.str (c::r)),v,.d (.int .i64 i)]/\H=[]/\i+k=(c::r).length/\G7 (c::r)=((c::r).drop i).all fun c=>lU c.toNat) (by rintro _ _ _ ⟨_,_,_,rfl,_⟩;rfl) ?_ (k:=(c::r).length) ⟨0,_,rfl,rfl,by simp,by simp [G7,hl,z8]⟩;rintro k _ _ ⟨i,v,rfl,rfl,hk,hi⟩;refine Ex.nT ?_
  repeat' (first|refine cl (aZ2 _) ?_|refine gx ?_|refine Ex.O6 ?_|refine Ex.O8 ?_|refine Ex.cond rfl (fun ht=> ?_) (fun ht=> ?_)|refine Ex.test (Rn.text ?_)|refine Ex.test (Rn.draw ?_)|refine ⟨_,rfl,fun ht=> ?_,fun ht=> ?_⟩|refine ⟨_,rfl,?_⟩|fail)
  .simp only [o8] at ht
   simp only [j9];have h1:=C6 ‹_›;rw [hi,D4 (by omega)];simp [ht]
  .have h1:=C6 ‹_›
   rw [D4 (by omega)] at hi;simp only [O1] at ht;refine ⟨k - 1,by omega,i+1,_,rfl,rfl,by omega,?_⟩;rw [hi];simp [ht]
  .have h1:=C5 ‹_›
   rw [n5 (by omega)] at hi;simp [hi,j9]
def Il (n a b:Int):Pf A 111 [.d (num n),.d (num a),.d (num b)] (.d (.bool (A4 n a b))):=by
 refine Pf.run [.d (num n),.d (num a),.d (num b),.any] rfl rfl rfl rfl ?_
 repeat' (first|refine gx ?_|refine fk (h1:=fun hw=> ?_) (h2:=fun hw=> ?_)|refine U0 (h1:=fun hw=> ?_) (h2:=fun hw=> ?_)|refine Ex.O6 ?_|refine Ex.O8 ?_|refine Ex.cond rfl (fun ht=> ?_) (fun ht=> ?_)|refine Ex.test (Rn.text ?_)|refine Ex.test (Rn.draw ?_)|refine ⟨_,rfl,fun ht=> ?_,fun ht=> ?_⟩|refine ⟨_,rfl,?_⟩|fail)
 all_goals first|(simp [*,j9,A4];done)|(simp_all [j9,A4];done)|(simp_all [j9,A4,z8,y3,o9,F8];done)|(simp_all [j9,A4,z8,y3,o9,F8]<;>omega)
def Ij (n a b:Int):Pf A 210 [.d (num n),.d (num a),.d (num b)] (.d (.bool (A4 n a b))):=by
 refine Pf.run [.d (num n),.d (num a),.d (num b),.any] rfl rfl rfl rfl ?_
 repeat' (first|refine gx ?_|refine fk (h1:=fun hw=> ?_) (h2:=fun hw=> ?_)|refine U0 (h1:=fun hw=> ?_) (h2:=fun hw=> ?_)|refine Ex.O6 ?_|refine Ex.O8 ?_|refine Ex.cond rfl (fun ht=> ?_) (fun ht=> ?_)|refine Ex.test (Rn.text ?_)|refine Ex.test (Rn.draw ?_)|refine ⟨_,rfl,fun ht=> ?_,fun ht=> ?_⟩|refine ⟨_,rfl,?_⟩|fail)
 all_goals first|(simp [*,j9,A4];done)|(simp_all [j9,A4];done)|(simp_all [j9,A4,z8,y3,o9,F8];done)|(simp_all [j9,A4,z8,y3,o9,F8]<;>omega)
def ZW (n:Int):Pf A 250 [.d (num n)] (.d (.bool (u0 n 1||u0 n 2))):=by
 refine Pf.run [.d (num n),.any] rfl rfl rfl rfl ?_
 repeat' (first|refine gx ?_|refine fk (h1:=fun hw=> ?_) (h2:=fun hw=> ?_)|refine U0 (h1:=fun hw=> ?_) (h2:=fun hw=> ?_)|refine Ex.O6 ?_|refine Ex.O8 ?_|refine Ex.cond rfl (fun ht=> ?_) (fun ht=> ?_)|refine Ex.test (Rn.text ?_)|refine Ex.test (Rn.draw ?_)|refine ⟨_,rfl,fun ht=> ?_,fun ht=> ?_⟩|refine ⟨_,rfl,?_⟩|fail)
 all_goals exact cc
def ints (l:List Int):Abs.Data:=A5 (fun n=>[num n]) l
def hasB (l:List Int)(n:Int):Bool:=l.any fun x=>u0 x n
def aZ1 (xs:List Int)(n:Int)(hx:xs.length<=1000):Pf A 246 [.d (ints xs),.d (num n)] (.d (.bool (hasB xs n))):=by
 refine Pf.run [.d (ints xs),.d (num n),.any,.any] rfl rfl rfl rfl ?_;refine gr ?_;refine Ex.N5 (fun k T H=>∃ (i:Nat) (v:j3),T=[.d (ints xs),.d (num n),v,.d (num i)]/\H=[]/\i+k=xs.length/\hasB xs n=(xs.drop i).any fun x=>u0 x n) (by rintro _ _ _ ⟨_,_,_,rfl,_⟩;rfl) ?_ (k:=xs.length) ⟨0,_,rfl,rfl,by simp,by simp [hasB]⟩;rintro k _ _ ⟨i,v,rfl,rfl,hk,hi⟩;refine Ex.nT ?_
 repeat' (first|refine gx ?_|refine Ex.O6 ?_|refine Ex.O8 ?_|refine Ex.cond rfl (fun ht=> ?_) (fun ht=> ?_)|refine Ex.test (Rn.text ?_)|refine Ex.test (Rn.draw ?_)|refine ⟨_,rfl,fun ht=> ?_,fun ht=> ?_⟩|refine ⟨_,rfl,?_⟩|fail)
 .have h1:=C6 ‹F3 i _=true›
  rw [D4 (by omega)] at hi;simp [hi,ht,j9]
 .have h1:=C6 ‹F3 i _=true›
  rw [D4 (by omega)] at hi;exact ⟨k - 1,by omega,i+1,_,rfl,rfl,by omega,by simp [hi,ht]⟩
 .have h1:=C5 ht
  rw [n5 (by omega)] at hi;simp [hi,j9]
def dU {α:Type}(eq:α->α->Bool):List α->List α->Bool
 |[],[]=>true
 |a::l,c::m=>eq a c&&dU eq l m
 |_,_=>false
theorem pO {α:Type}{eq:α->α->Bool}:∀ {l m:List α},l.length≠m.length->dU eq l m=false
 |[],[],h=>absurd rfl h
 |[],_::_,_=>rfl
 |_::_,[],_=>rfl
 |a::l,c::m,h=>by simp only [dU,pO (l:=l) (m:=m) (by simpa using h),Bool.and_false]
def aZ5 (xs ys:List Int)(hx:xs.length<=100000):Pf A 201 [.d (ints xs),.d (ints ys)] (.d (.bool (dU u0 xs ys))):=by
 refine Pf.run [.d (ints xs),.d (ints ys),.any,.any] rfl rfl rfl rfl ?_
 repeat' (first|refine gx ?_|refine Ex.O6 ?_|refine Ex.O8 ?_|refine Ex.cond rfl (fun ht=> ?_) (fun ht=> ?_)|refine Ex.test (Rn.text ?_)|refine Ex.test (Rn.draw ?_)|refine ⟨_,rfl,fun ht=> ?_,fun ht=> ?_⟩|refine ⟨_,rfl,?_⟩|fail)
 .have h1:xs.length≠ys.length:=by simp [o9] at ht;omega
  simp [pO h1,j9]
 have hl:xs.length=ys.length:=by simp [o9] at ht;omega
 refine Ex.N5 (fun k T H=>∃ (i:Nat) (v:j3),T=[.d (ints xs),.d (ints ys),v,.d (num i)]/\H=[]/\i+k=xs.length/\dU u0 xs ys=dU u0 (xs.drop i) (ys.drop i)) (by rintro _ _ _ ⟨_,_,_,rfl,_⟩;rfl) ?_ (k:=xs.length) ⟨0,_,rfl,rfl,by simp,by simp⟩;rintro k _ _ ⟨i,v,rfl,rfl,hk,hi⟩;refine Ex.nT ?_
 repeat' (first|refine gx ?_|refine Ex.O6 ?_|refine Ex.O8 ?_|refine Ex.cond rfl (fun ht=> ?_) (fun ht=> ?_)|refine Ex.test (Rn.text ?_)|refine Ex.test (Rn.draw ?_)|refine ⟨_,rfl,fun ht=> ?_,fun ht=> ?_⟩|refine ⟨_,rfl,?_⟩|fail)
 .have h1:=C6 ‹F3 i _=true›
  rw [D4 (by omega),D4 (l:=ys) (by omega)] at hi;simp only [o8] at ht;simp [hi,dU,ht,j9]
 .have h1:=C6 ‹F3 i _=true›
  rw [D4 (by omega),D4 (l:=ys) (by omega)] at hi;simp only [O1] at ht;exact ⟨k - 1,by omega,i+1,_,rfl,rfl,by omega,by simp [hi,dU,ht]⟩
 .have h1:=C5 ht
  rw [n5 (by omega),n5 (by omega)] at hi;simp [hi,dU,j9]
def ZS (xs ys:List Int)(hx:xs.length<=100000):Pf A 218 [.d (ints xs),.d (ints ys)] (.d (.bool (dU u0 xs ys))):=by
 refine Pf.run [.d (ints xs),.d (ints ys),.any,.any,.any,.any] rfl rfl rfl rfl ?_
 repeat' (first|refine gx ?_|refine Ex.O6 ?_|refine Ex.O8 ?_|refine Ex.cond rfl (fun ht=> ?_) (fun ht=> ?_)|refine Ex.test (Rn.text ?_)|refine Ex.test (Rn.draw ?_)|refine ⟨_,rfl,fun ht=> ?_,fun ht=> ?_⟩|refine ⟨_,rfl,?_⟩|fail)
 .have h1:xs.length≠ys.length:=by simp [o9] at ht;omega
  simp [pO h1,j9]
 have hl:xs.length=ys.length:=by simp [o9] at ht;omega
 refine Ex.N5 (fun k T H=>∃ (i:Nat) (v w:j3),T=[.d (ints xs),.d (ints ys),v,w,.d (num xs.length),.d (num i)]/\H=[]/\i+k=xs.length/\dU u0 xs ys=dU u0 (xs.drop i) (ys.drop i)) (by rintro _ _ _ ⟨_,_,_,_,rfl,_⟩;rfl) ?_ (k:=xs.length) ⟨0,_,_,rfl,rfl,by simp,by simp⟩;rintro k _ _ ⟨i,v,w,rfl,rfl,hk,hi⟩;refine Ex.nT ?_
 repeat' (first|refine gx ?_|refine Ex.O6 ?_|refine Ex.O8 ?_|refine Ex.cond rfl (fun ht=> ?_) (fun ht=> ?_)|refine Ex.test (Rn.text ?_)|refine Ex.test (Rn.draw ?_)|refine ⟨_,rfl,fun ht=> ?_,fun ht=> ?_⟩|refine ⟨_,rfl,?_⟩|fail)
 .have h1:=C6 ‹F3 i _=true›
  rw [D4 (by omega),D4 (l:=ys) (by omega)] at hi;simp only [o8] at ht;simp [hi,dU,ht,j9]
 .have h1:=C6 ‹F3 i _=true›
  rw [D4 (by omega),D4 (l:=ys) (by omega)] at hi;simp only [O1] at ht;exact ⟨k - 1,by omega,i+1,_,_,rfl,rfl,by omega,by simp [hi,dU,ht]⟩
 .have h1:=C5 ht
  rw [n5 (by omega),n5 (by omega)] at hi;simp [hi,dU,j9]
def val (k n:Int)(s:L0):j3:= .agg [.d (num k),.d (num n),.d (.str s)]
def trm (t:Y4):j3:= .agg (t.enc.map .d)
set_option maxHeartbeats 2000000 in
def aD9 (k n:Int)(s:L0):Pf A 228 [val k n s] (.d (.bool (gQ k n s))):=by
 refine Pf.run [val k n s,.any,.any,.any] rfl rfl rfl rfl ?_
 repeat' (first|refine gx ?_|refine fk (h1:=fun hw=> ?_) (h2:=fun hw=> ?_)|refine U0 (h1:=fun hw=> ?_) (h2:=fun hw=> ?_)|refine Ex.O6 ?_|refine Ex.O8 ?_|refine Ex.cond rfl (fun ht=> ?_) (fun ht=> ?_)|refine Ex.test (Rn.text ?_)|refine Ex.test (Rn.draw ?_)|refine ⟨_,rfl,fun ht=> ?_,fun ht=> ?_⟩|refine ⟨_,rfl,?_⟩|fail)
 all_goals first|(simp [*,j9,gQ];done)|(simp_all [j9,gQ];done)|(simp_all [j9,gQ,z8,y3,o9,F8];done)|(simp_all [j9,gQ,z8,y3,o9,F8]<;>omega)
set_option maxHeartbeats 2000000 in
def aE0 (k n:Int)(s:L0):Pf A 303 [val k n s] (.d (.bool (gQ k n s))):=by
 refine Pf.run [val k n s,.any,.any,.any] rfl rfl rfl rfl ?_
 repeat' (first|refine gx ?_|refine fk (h1:=fun hw=> ?_) (h2:=fun hw=> ?_)|refine U0 (h1:=fun hw=> ?_) (h2:=fun hw=> ?_)|refine Ex.O6 ?_|refine Ex.O8 ?_|refine Ex.cond rfl (fun ht=> ?_) (fun ht=> ?_)|refine Ex.test (Rn.text ?_)|refine Ex.test (Rn.draw ?_)|refine ⟨_,rfl,fun ht=> ?_,fun ht=> ?_⟩|refine ⟨_,rfl,?_⟩|fail)
 all_goals first|(simp [*,j9,gQ];done)|(simp_all [j9,gQ];done)|(simp_all [j9,gQ,z8,y3,o9,F8];done)|(simp_all [j9,gQ,z8,y3,o9,F8]<;>omega)
set_option maxHeartbeats 2000000 in
def aa5 (t:Y4):Pf A 272 [trm t] (.d (.bool (dc t))):=by
 refine Pf.run [trm t,.any,.any,.any] rfl rfl rfl rfl ?_
 repeat' (first|refine cl (aD9 _ _ _) ?_|refine gx ?_|refine fk (h1:=fun hw=> ?_) (h2:=fun hw=> ?_)|refine U0 (h1:=fun hw=> ?_) (h2:=fun hw=> ?_)|refine Ex.O6 ?_|refine Ex.O8 ?_|refine Ex.cond rfl (fun ht=> ?_) (fun ht=> ?_)|refine Ex.test (Rn.text ?_)|refine Ex.test (Rn.draw ?_)|refine ⟨_,rfl,fun ht=> ?_,fun ht=> ?_⟩|refine ⟨_,rfl,?_⟩|fail)
 all_goals first|(simp [*,j9,dc,zeroV];done)|(simp_all [j9,dc,zeroV];done)|(simp_all [j9,dc,zeroV,z8,y3,o9,F8];done)|(simp_all [j9,dc,zeroV,z8,y3,o9,F8]<;>omega)
set_option maxHeartbeats 2000000 in
def Ur (op:Int):Pf A 141 [.d (num op)] (.d (num (mX op))):=by
 refine Pf.run [.d (num op),.any,.any,.any,.any] rfl rfl rfl rfl ?_
 repeat' (first|refine gx ?_|refine fk (h1:=fun hw=> ?_) (h2:=fun hw=> ?_)|refine U0 (h1:=fun hw=> ?_) (h2:=fun hw=> ?_)|refine Ex.O6 ?_|refine Ex.O8 ?_|refine Ex.cond rfl (fun ht=> ?_) (fun ht=> ?_)|refine Ex.test (Rn.text ?_)|refine Ex.test (Rn.draw ?_)|refine ⟨_,rfl,fun ht=> ?_,fun ht=> ?_⟩|refine ⟨_,rfl,?_⟩|fail)
 all_goals first|(simp [*,j9,mX,num];done)|(simp_all [j9,mX,num];done)|(simp_all [j9,mX,num,z8,y3,o9,F8];done)|(simp_all [j9,mX,num,z8,y3,o9,F8]<;>omega)
set_option maxHeartbeats 8000000 in
def Uu (op:Int):Pf A 290 [.d (num op)] (.d (num (mX op))):=by
 refine Pf.run [.d (num op),.any,.any,.any,.any,.any] rfl rfl rfl rfl ?_
 repeat' (first|refine gx ?_|refine fk (h1:=fun hw=> ?_) (h2:=fun hw=> ?_)|refine U0 (h1:=fun hw=> ?_) (h2:=fun hw=> ?_)|refine Ex.O6 ?_|refine Ex.O8 ?_|refine Ex.cond rfl (fun ht=> ?_) (fun ht=> ?_)|refine Ex.test (Rn.text ?_)|refine Ex.test (Rn.draw ?_)|refine ⟨_,rfl,fun ht=> ?_,fun ht=> ?_⟩|refine ⟨_,rfl,?_⟩|fail)
 all_goals first|(simp [*,j9,mX,num];done)|(simp_all [j9,mX,num];done)|(simp_all [j9,mX,num,z8,y3,o9,F8];done)|(simp_all [j9,mX,num,z8,y3,o9,F8]<;>omega)
def aZ (e:List Y4):j3:= .d (A5 Y4.enc e)
def rF (e:List Y4)(d p:Nat):Int:=match M8 d (e.drop p) with
 |none=> -1
 |some (_,r)=>((e.length - r.length:Nat):Int)
def EH (e:List Y4)(d k p:Nat):Int:=match dM (M8 d) k (e.drop p) with
 |none=> -1
 |some (_,r)=>((e.length - r.length:Nat):Int)
def Qq {e:List Y4}{d p:Nat}(hp:p<e.length)(h:yb (nth e p)=true):rF e (d+1) p=EH e d (mX (nth e p).op).toNat (p+1):=by
 simp only [rF,EH];rw [D4 hp,M8,h,if_pos rfl];cases dM (M8 d) (mX (nth e p).op).toNat (e.drop (p+1)) with
 |none=>rfl
 |some x=>rfl
def CD {e:List Y4}{d p:Nat}(h:e.length<=p\/d=0\/yb (nth e p)=false):rF e d p= -1:=by
 simp only [rF]
 rcases h with h|h|h
 .rw [n5 h]
  cases d<;>rfl
 .subst h;rfl
 .rcases s5 p e.length with hp|hp
  .rw [D4 hp]
   cases d with
   |zero=>rfl
   |succ d=>rw [M8,h,if_neg (by simp)]
  .rw [n5 hp]
   cases d<;>rfl
def rG (e:List Y4)(d p:Nat):(rF e d p= -1/\M8 d (e.drop p)=none)\/∃ q:Nat,rF e d p=q/\q<=e.length/\p<=q/\∃ a,M8 d (e.drop p)=some (a,e.drop q):=by
 simp only [rF];cases h:M8 d (e.drop p) with
 |none=>exact Or.inl ⟨rfl,rfl⟩
 |some x =>
  obtain ⟨a,r⟩:=x;right;obtain ⟨h1,_,_⟩:=S7 d _ a r h;have h2:r.length<=e.length - p:=by
   have:=congrArg List.length h1;simp at this;omega
  have h4:p<=e.length:=by
   rcases s5 e.length p with hp|hp
   .rw [n5 (by omega)] at h1
    have:=congrArg List.length h1;have:=iS a;simp at *
    omega
   .exact hp
  refine ⟨e.length - r.length,rfl,by omega,by omega,a,?_⟩;have h3:e.drop (e.length - r.length)=r:=by
   have h5:e=(e.take p++a.flat)++r:=by rw [A9,<- h1,List.take_append_drop]
   conv=>lhs;rw [h5]
   rw [List.drop_append_of_le_length (by simp;omega),n5 (by simp;omega)];rfl
  rw [h3]
def Qp {e:List Y4}{d k p:Nat}:EH e d (k+1) p=if F3 (rF e d p) 0 then -1 else EH e d k (rF e d p).toNat:=by
 rcases rG e d p with ⟨h1,h2⟩|⟨q,h1,_,_,a,h2⟩
 .rw [h1,if_pos (by simp [z8])]
  simp only [EH,dM,h2]
 .rw [h1,if_neg (by simp [z8])]
  simp only [EH,dM,h2,Int.toNat_natCast];cases dM (M8 d) k (e.drop q) with
  |none=>rfl
  |some x=>rfl
set_option maxHeartbeats 2000000 in
def aa4 (e:List Y4)(he:e.length<=1000):∀ d p:Nat,d<=100->p<=2000->Pf A 229 [aZ e,.d (num p),.d (num d)] (.d (num (rF e d p))):=by
 intro d
 induction d with
 |zero =>
  intro p _ hp;refine Pf.run [aZ e,.d (num p),.d (num (0:Nat)),.any,.any,.any] rfl rfl rfl rfl ?_;refine gr ?_;refine tB (true) ?_ (fun h1=> ?_) (fun h1=> ?_)
  .repeat' (first|refine cl (Ur _) ?_|refine cl (aa5 _) ?_|refine gx ?_|refine fk (h1:=fun hw=> ?_) (h2:=fun hw=> ?_)|refine U0 (h1:=fun hw=> ?_) (h2:=fun hw=> ?_)|refine ⟨rfl,rfl,_,rfl,?_⟩|refine ⟨rfl,rfl⟩|fail)
   all_goals exact cc
  .refine gr ?_
   exact ⟨_,rfl,by rw [CD (Or.inr (Or.inl rfl))];rfl⟩
  .cases h1
 |succ d ih =>
  intro p hd hp;refine Pf.run [aZ e,.d (num p),.d (num (d+1:Nat)),.any,.any,.any] rfl rfl rfl rfl ?_;refine gr ?_;refine tB (aF e.length p|| !yb (nth e p)) ?_ (fun h1=> ?_) (fun h1=> ?_)
  .repeat' (first|refine cl (Ur _) ?_|refine cl (aa5 _) ?_|refine gx ?_|refine fk (h1:=fun hw=> ?_) (h2:=fun hw=> ?_)|refine U0 (h1:=fun hw=> ?_) (h2:=fun hw=> ?_)|refine ⟨rfl,rfl,_,rfl,?_⟩|refine ⟨rfl,rfl⟩|fail)
   all_goals first|(simp [*,j9,yb];done)|(simp_all [j9,yb];done)|(simp_all [j9,yb,z8,y3,o9,F8];done)|(simp_all [j9,yb,z8,y3,o9,F8]<;>omega)
  .refine gr ?_
   refine ⟨_,rfl,?_⟩;rw [CD]
   .rfl
   .simp only [L5,o8] at h1
    rcases h1 with h|h
    .have:=nV h;left;omega
    .exact Or.inr (Or.inr h)
  simp only [E6,O1] at h1;have h2:=wm h1.1;have h3:=oS (nth e p).op;have h4:0<=mX (nth e p).op:=by
   have:=h1.2;simp only [yb,c9,o8] at this;exact C5 this.1
  repeat' (first|refine cl (Ur _) ?_|refine gx ?_|fail)
  refine Ex.N5 (fun k T H=>∃ (i q:Nat) (v:j3),T=[aZ e,.d (num q),.d (num (d+1:Nat)),v,.d (num (mX (nth e p).op)),.d (num i)]/\H=[]/\(i:Int)+k=mX (nth e p).op/\q<=e.length/\rF e (d+1) p=EH e d k q) (by rintro _ _ _ ⟨_,_,_,_,rfl,_⟩;rfl) ?_ (k:=(mX (nth e p).op).toNat) ⟨0,p+1,_,rfl,rfl,by omega,by omega,Qq (by omega) h1.2⟩;rintro k _ _ ⟨i,q,v,rfl,rfl,hk,hq,hi⟩;refine Ex.nT ?_;refine Ex.seq ?_;refine tb (F3 i (mX (nth e p).op)) (fun h5=> ?_) (fun h5=> ?_)
  .have h6:=C6 h5
   obtain ⟨k,rfl⟩:∃ k',k=k' +1:=⟨k - 1,by omega⟩;refine gr ?_;refine cl (ih q (by omega) (by omega)) ?_ (ha:=by rw [show (d:Int)=((d+1:Nat):Int) - 1 by omega];rfl);rw [Qp] at hi
   rcases rG e d q with ⟨e1,_⟩|⟨q',e1,e2,_,_,_⟩
   .rw [e1] at hi ⊢
    have e3:F3 (-1) 0=true:=by simp [z8]
    rw [e3,if_pos rfl] at hi;refine gr ?_;refine tb (true) (fun h7=> ?_) (fun h7=> ?_)
    .refine gr ?_
     exact ⟨_,rfl,by rw [hi];rfl⟩
    .cases h7
   .rw [e1] at hi ⊢
    have e3:F3 (q' :Int) 0=false:=by simp [z8]
    rw [e3,if_neg (by simp)] at hi;refine gr ?_;refine tb (false) (fun h7=> ?_) (fun h7=> ?_)
    .cases h7
    refine gr ?_;exact ⟨k,by omega,i+1,q',_,rfl,rfl,by omega,by omega,hi⟩
  .have h6:=C5 h5
   obtain rfl:k=0:=by omega
   refine gr ?_;refine ⟨_,rfl,?_⟩;have h8:EH e d 0 q=q:=by simp only [EH,dM,List.length_drop];omega
   rw [hi,h8];rfl
def ak (e:List Y4):Bool:=aF 1 e.length&&aF e.length 64&&u0 (rF e 16 0) e.length
def aC7 (e:List Y4)(he:e.length<=1000):Pf A 170 [aZ e] (.d (.bool (ak e))):=by
 refine Pf.run [aZ e,.any] rfl rfl rfl rfl ?_
 repeat' (first|refine cl (aa4 e he 16 0 (by omega) (by omega)) ?_|refine gx ?_|refine fk (h1:=fun hw=> ?_) (h2:=fun hw=> ?_)|refine U0 (h1:=fun hw=> ?_) (h2:=fun hw=> ?_)|refine Ex.O6 ?_|refine Ex.O8 ?_|refine Ex.cond rfl (fun ht=> ?_) (fun ht=> ?_)|refine Ex.test (Rn.text ?_)|refine Ex.test (Rn.draw ?_)|refine ⟨_,rfl,fun ht=> ?_,fun ht=> ?_⟩|refine ⟨_,rfl,?_⟩|fail)
 all_goals first|(simp [*,j9,ak];done)|(simp_all [j9,ak];done)|(simp_all [j9,ak,z8,y3,o9,F8];done)|(simp_all [j9,ak,z8,y3,o9,F8]<;>omega)
def fN (e:List Y4):ak e=(fO e).isSome:=by
 unfold ak fO;cases h:(aF 1 e.length&&aF e.length 64) with
 |false=>rfl
 |true =>
  simp only [if_true,Bool.true_and];simp only [c9] at h;have hl:=nV h.1;simp only [rF,List.drop_zero];cases h1:M8 16 e with
  |none =>
   simp only [Option.isSome_none,o9];simp
  |some x =>
   obtain ⟨a,r⟩:=x;obtain ⟨h2,_,_⟩:=S7 16 e a r h1;have h3:a.flat.length+r.length=e.length:=by rw [h2];simp
   have h4:=iS a;cases r with
   |nil=>simp [o9]
   |cons t r=>simp [o9] at *;omega
def ao5 (l:List aL):j3:= .d (A5 (fun x=>[A5 Y4.enc x]) (l.map aL.flat))
def Ld {e:List Y4}{p:Nat}{a:aL}{l:List aL}(h:e.drop p=L9 (a::l)):e.drop (p+a.flat.length)=L9 l/\(e.take (p+a.flat.length)).drop p=a.flat:=by
 constructor
 .rw [<- List.drop_drop,h,L9,List.drop_left]
 .rw [List.drop_take,h,Nat.add_sub_cancel_left,L9,List.take_left]
set_option maxHeartbeats 2000000 in
def aD0 (t:Y4)(l:List aL)(he:(t::L9 l).length<=1000)(hw:WY l)(hd:lG l<=16):Pf A 230 [aZ (t::L9 l)] (ao5 l):=by
 refine Pf.run [aZ (t::L9 l),.any,.any,.any,.any] rfl rfl rfl rfl ?_;refine gr ?_;refine Ex.N5 (fun k T H=>∃ (p:Nat) (l1 l2:List aL) (v w:j3),T=[aZ (t::L9 l),v,C9 1 (fun x=>[A5 Y4.enc x]) (l1.map aL.flat),.d (num p),w]/\H=[]/\k=l2.length/\l=l1++l2/\p<=(t::L9 l).length/\(t::L9 l).drop p=L9 l2/\WY l2/\lG l2<=16) (by rintro _ _ _ ⟨_,_,_,_,_,_,rfl,_⟩;rfl) ?_ (k:=l.length) ⟨1,[],l,_,_,rfl,rfl,rfl,rfl,by simp,rfl,hw,hd⟩;rintro k _ _ ⟨p,l1,l2,v,w,rfl,rfl,hk,hl,hp,hp2,Lv,hd2⟩;have hlen:=uM l;have Tq:l1.length<=1000:=by
  have:=congrArg List.length hl;simp at this he;omega
 have Ls:(L9 l2).length+p=(t::L9 l).length:=by rw [<- hp2];simp at hp ⊢;omega
 refine Ex.nT ?_;refine Ex.seq ?_;refine tb (F3 p (t::L9 l).length) (fun h1=> ?_) (fun h1=> ?_)
 .have h2:=C6 h1
  cases l2 with
  |nil=>simp [L9] at Ls h2;omega
  |cons a l2 =>
  have h3:=Ld hp2;have h4:rF (t::L9 l) 16 p=((p+a.flat.length:Nat):Int):=by
   simp only [lG] at hd2;simp only [rF,hp2,L9];rw [X9 a 16 (L9 l2) Lv.1 (by omega)];simp only [L9,n9] at Ls;simp only;omega
  have h5:=aa4 (t::L9 l) he 16 p (by omega) (by omega);rw [h4] at h5;simp only [L9,n9] at Ls
  repeat' (first|refine cl (h5) ?_|refine gx ?_|fail)
  refine ⟨l2.length,by simp at hk;omega,p+a.flat.length,l1++[a],l2,.any,.d (num (p+a.flat.length:Nat)),by rw [h3.2];simp [C9],rfl,rfl,by simp [hl],by omega,h3.1,Lv.2,by simp only [lG] at hd2;omega⟩
 .have h2:=C5 h1
  cases l2 with
  |cons a l2 =>
   have:=iS a;simp only [L9,n9] at Ls;omega
  |nil =>
  refine gr ?_;refine ⟨_,rfl,?_⟩;simp at hl;subst hl;rfl
def Ib (op:Int)(k:Nat):Prop:=(op=3\/op=9\/op=13\/op=16)/\k=1\/op=18/\k=3\/4<=op/\op<=17/\op≠9/\op≠13/\op≠16/\k=2
def Un {t:Y4}{k:Nat}(h:yb t=true)(hk:(mX t.op).toNat=k)(h1:u0 t.op 1=false)(h2:u0 t.op 2=false):Ib t.op k:=by
 simp only [yb,c9,o8] at h;have h3:=C5 h.1;simp only [mX,h1,h2,Bool.or_self,j5,if_false,L5,c9] at h3 hk;unfold Ib;split at h3
 .rename_i h4
  rw [if_pos h4] at hk;simp [o9] at h4 hk;left;omega
 .rename_i h4
  rw [if_neg h4] at hk;simp [o9] at h4 h1 h2;split at h3
  .rename_i h5
   rw [if_pos h5] at hk;simp [o9] at h5 hk;right;left;omega
  .rename_i h5
   rw [if_neg h5] at hk;simp [o9] at h5;split at h3
   .rename_i h6
    rw [if_pos h6] at hk;simp [y3] at h6 hk;right;right;omega
   .omega
set_option maxHeartbeats 16000000 in
def aD1 (op:Int)(t:List Int)(h:Ib op t.length):Pf A 231 [.d (num op),.d (ints t)] (.d (num (gP op t))):=by
 unfold Ib at h;refine Pf.run [.d (num op),.d (ints t),.any,.any,.any,.any,.any,.any,.any] rfl rfl rfl rfl ?_
 repeat' (first|refine gx ?_|refine fk (h1:=fun hw=> ?_) (h2:=fun hw=> ?_)|refine U0 (h1:=fun hw=> ?_) (h2:=fun hw=> ?_)|refine Ex.O6 ?_|refine Ex.O8 ?_|refine Ex.cond rfl (fun ht=> ?_) (fun ht=> ?_)|refine Ex.test (Rn.text ?_)|refine Ex.test (Rn.draw ?_)|refine ⟨_,rfl,fun ht=> ?_,fun ht=> ?_⟩|refine ⟨_,rfl,?_⟩|fail)
 all_goals first|(simp [*,j9,gP,num];done)|(simp_all [j9,gP,num];done)|(simp_all [j9,gP,num,z8,y3,o9,F8];done)|(simp_all [j9,gP,num,z8,y3,o9,F8]<;>omega)
def Yh {α:Type} [Inhabited α] (l1:List α)(a:α)(l2:List α):nth (l1++a::l2) l1.length=a:=by
 rw [J9 (by simp)];simp
theorem zv {a:aL}:∀ {l:List aL},a ∈ l->a.flat.length<=(L9 l).length
 |b::l,h=>by
  simp only [L9,n9]
  rcases y7.1 h with rfl|h
  .omega
  .have:=zv h;omega
theorem ME {a:aL}:∀ {l:List aL},WY l->a ∈ l->a.wf
 |b::l,hw,h=>by
  rcases y7.1 h with rfl|h
  .exact hw.1
  .exact ME hw.2 h
theorem Na {a:aL}:∀ {l:List aL},a ∈ l->a.dep<=lG l
 |b::l,h=>by
  simp only [lG]
  rcases y7.1 h with rfl|h
  .omega
  .have:=Na h;omega
set_option maxHeartbeats 4000000 in
def aC8 (ty:List Int):∀ (n:Nat) (a:aL),a.flat.length<=n->n<=1000->a.wf->a.dep<=16->Pf A 171 [aZ a.flat,.d (ints ty)] (.tuple [.d (num (a.typ ty).1),.d (num (a.typ ty).2)]):=by
 intro n
 induction n with
 |zero=>intro a h;have:=iS a;omega
 |succ n ih =>
 rintro ⟨t,l⟩ hn hn2 hw hd;simp only [aL.flat] at hn ⊢;simp only [aL.dep] at hd;have hle:(t::L9 l).length<=1000:=by omega
 have hpos:0<(t::L9 l).length:=by simp
 have h0:nth (t::L9 l) 0=t:=U9 _ _;obtain ⟨hok,har,QJ⟩:=hw;have hll:=uM l;have hl3:l.length<=3:=by have:=oS t.op;omega
 refine Pf.run [aZ (t::L9 l),.d (ints ty),.any,.any,.any,.any,.any,.any,.any,.any,.any] rfl rfl rfl rfl ?_;refine gr ?_;rw [h0];have aR8:u0 t.op 2=true->u0 t.op 1=false->0<=t.col:=fun h h' =>by
  simp only [yb,dc,h,h',if_true,j5,if_false,c9] at hok;exact nV hok.2.2
 have hl0:(u0 t.op 1||u0 t.op 2)=true->l=[]:=fun h=>by
  have:mX t.op=0:=by unfold mX;rw [h,if_pos rfl]
  rw [this] at har;cases l with
  |nil=>rfl
  |cons a l=>simp at har
 refine tb (u0 t.op 1) (fun h1=> ?_) (fun h1=> ?_)
 .refine gr ?_
  refine ⟨_,rfl,?_⟩;rw [hl0 (by simp [h1])];simp [j9,aL.typ,gB,AZ,h1,o9,num,j3.I7,U9]
 refine gr ?_;refine tb (u0 t.op 2) (fun h2=> ?_) (fun h2=> ?_)
 .have hc:=aR8 h2 h1
  have hll:=hl0 (by simp [h2]);refine gr ?_;refine tB (aF ty.length t.col) ?_ (fun h3=> ?_) (fun h3=> ?_)
  .repeat' (first|refine gx ?_|refine fk (h1:=fun hw=> ?_) (h2:=fun hw=> ?_)|refine U0 (h1:=fun hw=> ?_) (h2:=fun hw=> ?_)|refine ⟨rfl,rfl,_,rfl,?_⟩|refine ⟨rfl,rfl⟩|fail)
   all_goals first|(simp [*,j9,U9];done)|(simp_all [j9,U9];done)|(simp_all [j9,U9,z8,y3,o9,F8];done)|(simp_all [j9,U9,z8,y3,o9,F8]<;>omega)
  .refine gr ?_
   refine ⟨_,rfl,?_⟩;rw [hll];simp [j9,aL.typ,gB,AZ,h1,h2,h3,o9,num,j3.I7]
  .have h4:=wm h3
   refine gr ?_;rw [h0];refine gr ?_;refine ⟨_,rfl,?_⟩;rw [hll];simp [j9,aL.typ,gB,AZ,h1,h2,h3,o9,num,j3.I7]
 have hfit:=Un hok har h1 h2
 repeat' (first|refine cl (aD0 t l hle QJ (by omega)) ?_|refine gx ?_|fail)
 refine Ex.N5 (fun k T H=>∃ (i:Nat) (l1 l2:List aL) (ts:List Int) (v2 v3 v7 v8 v9 v10:j3),T=[aZ (t::L9 l),.d (ints ty),v2,v3,C9 1 (fun n=>[num n]) ts,ao5 l,.d (num i),v7,v8,v9,v10]/\H=[]/\i=l1.length/\k=l2.length/\l=l1++l2/\ts.length=l1.length/\(gB ty l).1=ts++(gB ty l2).1/\(gB ty l).2=(gB ty l2).2) (by rintro _ _ _ ⟨_,_,_,_,_,_,_,_,_,_,_,rfl,_⟩;rfl) ?_ (k:=l.length) ⟨0,[],l,[],_,_,_,_,_,_,rfl,rfl,rfl,rfl,rfl,rfl,rfl,rfl⟩;rintro k _ _ ⟨i,l1,l2,ts,v2,v3,v7,v8,v9,v10,rfl,rfl,BY,hk,hl,hts,e1,e2⟩;have hlen:l.length=l1.length+l2.length:=by rw [hl];simp
 refine Ex.nT ?_;refine Ex.seq ?_;unfold ao5;refine tb (F3 i l.length) (fun h3=> ?_) (fun h3=> ?_)
 .have h4:=C6 h3
  cases l2 with
  |nil=>simp at hlen;omega
  |cons a l2 =>
  have hm:nth (l.map aL.flat) i=a.flat:=by
   have:=Yh (l1.map aL.flat) a.flat (l2.map aL.flat);rw [hl,BY];simpa using this
  have ha:a ∈ l:=by rw [hl];simp
  have hp:=ih a (by have:=zv ha;simp at hn;omega) (by omega) (ME QJ ha) (by have:=Na ha;omega);have hlm:i<(l.map aL.flat).length:=by simp;omega
  refine gr ?_;rw [hm];simp only [gB] at e1 e2
  repeat' (first|refine cl (hp) ?_|refine gx ?_|fail)
  refine tb (!u0 (a.typ ty).2 0) (fun h5=> ?_) (fun h5=> ?_)
  .simp only [o8] at h5
   simp only [h5,j5,if_false] at e1 e2;refine gr ?_;refine ⟨_,rfl,?_⟩;simp [j9,aL.typ,e2,h5,j3.I7,num]
  .simp only [O1] at h5
   simp only [h5,if_true] at e1 e2;refine gr ?_;exact ⟨l2.length,by simp at hk;omega,i+1,l1++[a],l2,ts++[(a.typ ty).1],_,_,_,_,_,_,rfl,rfl,by simp [BY],rfl,by simp [hl],by simp [hts],by simp [e1],e2⟩
 .have h4:=C5 h3
  cases l2 with
  |cons a l2=>simp at hlen;omega
  |nil =>
  simp only [gB,List.append_nil] at e1 e2;refine gr ?_;rw [h0];have ax7:Ib t.op ts.length:=by rw [hts];simpa [hl] using hfit
  repeat' (first|refine cl (aD1 t.op ts ax7) ?_|refine gx ?_|fail)
  refine tb (u0 (gP t.op ts) 0) (fun h5=> ?_) (fun h5=> ?_)
  .refine gr ?_
   refine ⟨_,rfl,?_⟩;simp [j9,aL.typ,e1,e2,h1,h2,h5,AZ,j3.I7,num,o9]
  .refine gr ?_
   refine ⟨_,rfl,?_⟩;simp [j9,aL.typ,e1,e2,h1,h2,h5,AZ,j3.I7,num,o9]
def pair (p:Int×Int):j3:= .tuple [.d (num p.1),.d (num p.2)]
set_option maxHeartbeats 2000000 in
def NM (e:List Y4)(ty:List Int)(he:e.length<=1000)(ht:ty.length<=100000):Pf A 114 [aZ e,.d (ints ty)] (pair (H7 e ty)):=by
 refine Pf.run [aZ e,.d (ints ty),.any,.any,.any] rfl rfl rfl rfl ?_;refine gr ?_;refine tB (!ak e) ?_ (fun h1=> ?_) (fun h1=> ?_)
 .repeat' (first|refine cl (aC7 e he) ?_|refine gx ?_|refine fk (h1:=fun hw=> ?_) (h2:=fun hw=> ?_)|refine U0 (h1:=fun hw=> ?_) (h2:=fun hw=> ?_)|refine ⟨rfl,rfl,_,rfl,?_⟩|refine ⟨rfl,rfl⟩|fail)
  all_goals exact cc
 .refine gr ?_
  refine ⟨_,rfl,?_⟩;rw [fN] at h1;cases h2:fO e with
  |none=>simp [H7,h2,j9,pair,num,j3.I7]
  |some a=>simp [h2] at h1
 rw [fN] at h1;cases h2:fO e with
 |none=>simp [h2] at h1
 |some a =>
 have h3:e=a.flat/\a.wf/\a.dep<=16:=by
  unfold fO at h2;split at h2
  .split at h2
   .rename_i b h4
    obtain ⟨e1,e2,e3⟩:=S7 16 e b [] h4;cases h2;exact ⟨by simpa using e1,e2,e3⟩
   .cases h2
  .cases h2
 refine gr ?_;refine Ex.N5 (fun k T H=>∃ (i:Nat) (v w:j3),T=[aZ e,.d (ints ty),v,w,.d (num i)]/\H=[]/\i+k=ty.length/\bI ty=bI (ty.drop i)) (by rintro _ _ _ ⟨_,_,_,_,rfl,_⟩;rfl) ?_ (k:=ty.length) ⟨0,_,_,rfl,rfl,by simp,by simp⟩;rintro k _ _ ⟨i,v,w,rfl,rfl,hk,hi⟩;refine Ex.nT ?_;refine Ex.seq ?_;refine tb (F3 i ty.length) (fun h4=> ?_) (fun h4=> ?_)
 .have h5:=C6 h4
  rw [D4 (by omega)] at hi;refine gr ?_;refine tb (!u0 (nth ty i) 1&& !u0 (nth ty i) 2) (fun h6=> ?_) (fun h6=> ?_)
  .refine gr ?_
   refine ⟨_,rfl,?_⟩;have h7:bI ty=false:=by
    rw [hi];simp only [c9,o8] at h6;simp [bI,h6]
   simp [H7,h2,h7,j9,pair,num,j3.I7]
  .refine gr ?_
   refine ⟨k - 1,by omega,i+1,_,_,rfl,rfl,by omega,?_⟩;rw [hi];simp only [bI,List.all_cons];cases h7:u0 (nth ty i) 1<;>cases h8:u0 (nth ty i) 2<;>simp_all
 .have h5:=C5 h4
  rw [n5 (by omega)] at hi;have h6:=aC8 ty e.length a (by rw [h3.1];omega) he h3.2.1 h3.2.2;rw [<- h3.1] at h6
  repeat' (first|refine cl (h6) ?_|refine gx ?_|fail)
  refine ⟨_,rfl,?_⟩;have hg:bI ty=true:=by rw [hi];rfl
  simp [H7,h2,hg,j9,pair,j3.I7]
def encS (s:L0):List Abs.Data:=[.str s]
set_option maxHeartbeats 4000000 in
def aE3 (c:y4)(hf:c.qA):Pf A 142 [cat c] (.d (A5 encS c.names)):=by
 obtain ⟨f0,f1,f2,f3,f4,f5,f6,f7⟩:=hf;refine Pf.run [cat c,.any,.any,.any,.any,.any,.any,.any,.any,.any,.any,.any] rfl rfl rfl rfl ?_;refine gr ?_;refine Ex.N5 (fun k T H=>∃ (i:Nat) (acc:List L0) (v0 v2 w5 w6 w7 w8 w9 oE mM:j3),T=[v0,.ptr 0 0,v2,C9 1 encS acc,.d (num i),w5,w6,w7,w8,w9,oE,mM]/\H=[.cells (c.enc.map .d)]/\i+k=c.o7.length/\acc=([]:List L0)++(c.o7.take i).map mH.name) (by rintro _ _ _ ⟨_,_,_,_,_,_,_,_,_,_,_,_,rfl,_⟩;rfl) ?_ (k:=c.o7.length) ⟨0,([]:List L0),_,_,_,_,_,_,_,_,_,rfl,rfl,by simp,by simp⟩;rintro k _ _ ⟨i,acc,v0,v2,w5,w6,w7,w8,w9,oE,mM,rfl,rfl,hk,hacc⟩;have hl:acc.length=0+i:=by rw [hacc];simp;omega
 refine Ex.nT ?_
 repeat' (first|refine gx ?_|refine Ex.O6 ?_|refine Ex.O8 ?_|refine Ex.cond rfl (fun ht=> ?_) (fun ht=> ?_)|refine Ex.test (Rn.text ?_)|refine Ex.test (Rn.draw ?_)|refine ⟨_,rfl,fun ht=> ?_,fun ht=> ?_⟩|refine ⟨_,rfl,?_⟩|fail)
 .have h1:=C6 ht
  refine ⟨k - 1,by omega,i+1,acc++[(nth c.o7 i).name],_,_,_,_,_,_,_,_,_,rfl,rfl,by omega,?_⟩;rw [K3 (by omega),hacc];simp
 have h1:=C5 ht;rw [A8 (by omega)] at hacc;clear ht h1 hk hl;subst hacc;refine Ex.N5 (fun k T H=>∃ (i:Nat) (acc:List L0) (v0 v2 w4 w6 w7 w8 w9 oE mM:j3),T=[v0,.ptr 0 0,v2,C9 1 encS acc,w4,.d (num i),w6,w7,w8,w9,oE,mM]/\H=[.cells (c.enc.map .d)]/\i+k=c.views.length/\acc=c.o7.map mH.name++(c.views.take i).map Vw.name) (by rintro _ _ _ ⟨_,_,_,_,_,_,_,_,_,_,_,_,rfl,_⟩;rfl) ?_ (k:=c.views.length) ⟨0,c.o7.map mH.name,_,_,_,_,_,_,_,_,_,rfl,rfl,by simp,by simp⟩;rintro k _ _ ⟨i,acc,v0,v2,w4,w6,w7,w8,w9,oE,mM,rfl,rfl,hk,hacc⟩;have hl:acc.length=0+c.o7.length+i:=by rw [hacc];simp;omega
 refine Ex.nT ?_
 repeat' (first|refine gx ?_|refine Ex.O6 ?_|refine Ex.O8 ?_|refine Ex.cond rfl (fun ht=> ?_) (fun ht=> ?_)|refine Ex.test (Rn.text ?_)|refine Ex.test (Rn.draw ?_)|refine ⟨_,rfl,fun ht=> ?_,fun ht=> ?_⟩|refine ⟨_,rfl,?_⟩|fail)
 .have h1:=C6 ht
  refine ⟨k - 1,by omega,i+1,acc++[(nth c.views i).name],_,_,_,_,_,_,_,_,_,rfl,rfl,by omega,?_⟩;rw [K3 (by omega),hacc];simp
 have h1:=C5 ht;rw [A8 (by omega)] at hacc;clear ht h1 hk hl;subst hacc
 iterate 6
  refine Ex.N5 (fun k T H=>T=_/\H=_) (by rintro _ _ _ ⟨_,rfl⟩;rfl) ?_ (k:=0) ⟨rfl,rfl⟩;rintro k _ _ ⟨rfl,rfl⟩;refine Ex.nT ?_
  repeat' (first|refine gx ?_|refine Ex.O6 ?_|refine Ex.O8 ?_|refine Ex.cond rfl (fun ht=> ?_) (fun ht=> ?_)|refine Ex.test (Rn.text ?_)|refine Ex.test (Rn.draw ?_)|refine ⟨_,rfl,fun ht=> ?_,fun ht=> ?_⟩|refine ⟨_,rfl,?_⟩|fail)
  .have:=C6 ht
   omega
  clear ht
 simp_all [j9,A5,C9,y4.names]
def y4.sn (c:y4):List L0:=c.o7.map mH.name++c.views.map Vw.name
def y4.ns (c:y4):Nat:=c.o7.length+c.views.length
def J2 (name:L0):List L0->Nat->Int
 |[],_=> -1
 |x::r,i=>if L4 x name then i else J2 name r (i+1)
def H9 (c:y4)(name:L0)(n:Nat):Int:=J2 name ((y4.sn c).take n) 0
def jV (c:y4):(y4.sn c).length=y4.ns c:=by simp [y4.sn,y4.ns]
def Ab (c:y4){i:Nat}(h:i<y4.ns c):nth c.names i=nth (y4.sn c) i:=by
 have h1:c.names=y4.sn c++(c.idxs.map PU.name++c.qm.map Qa.name++c.qf.map PS.name++c.ql.map PZ.name++c.qn.map Qb.name++c.qd.map PO.name):=by simp [y4.names,y4.sn]
 have h2:i<(y4.sn c).length:=by rw [jV];exact h
 rw [h1,J9 h2,J9 (by simp;omega),List.getElem_append_left h2]
def bk (c:y4):y4.ns c<=c.names.length:=by simp [y4.names,y4.ns]
def LU (c:y4)(name:L0)(n:Nat)(hf:c.qA)(hn:n<=100000):Pf A 112 [cat c,.d (.str name),.d (num n)] (.d (num (H9 c name n))):=by
 have hl:=bk c;have hc:y4.ns c<=2000:=by obtain ⟨f0,f1,_⟩:=hf;unfold y4.ns;omega
 have hs:=jV c;have qD :c.o7.length+c.views.length<=2000:=hc;refine Pf.run [cat c,.d (.str name),.d (num n),.any,.any,.any,.any] rfl rfl rfl rfl ?_
 repeat' (first|refine cl (aE3 c hf) ?_|refine gx ?_|fail)
 refine Ex.N5 (fun k T H=>∃ (i:Nat) (v w:j3),T=[v,.d (.str name),.d (num n),.ptr 0 0,w,.d (A5 encS c.names),.d (num i)]/\H=[.cells (c.enc.map .d)]/\i+k=y4.ns c/\i<=n/\H9 c name n=J2 name (((y4.sn c).take n).drop i) i) (by rintro _ _ _ ⟨_,_,_,_,rfl,_⟩;rfl) ?_ (k:=y4.ns c) ⟨0,_,_,rfl,rfl,by simp,by omega,by simp [H9]⟩;rintro k _ _ ⟨i,v,w,rfl,rfl,hk,hin,hi⟩;refine Ex.nT ?_;refine Ex.seq ?_;refine tB (F3 i n&&F3 i (y4.ns c)) ?_ (fun h1=> ?_) (fun h1=> ?_)
 .repeat' (first|refine gx ?_|refine fk (h1:=fun hw=> ?_) (h2:=fun hw=> ?_)|refine U0 (h1:=fun hw=> ?_) (h2:=fun hw=> ?_)|refine ⟨rfl,rfl,_,rfl,?_⟩|refine ⟨rfl,rfl⟩|fail)
  all_goals first|(simp [*,j9,y4.ns];done)|(simp_all [j9,y4.ns];done)|(simp_all [j9,y4.ns,z8,y3,o9,F8];done)|(simp_all [j9,y4.ns,z8,y3,o9,F8]<;>omega)
 .simp only [c9] at h1
  have h2:=C6 h1.1;have h3:=C6 h1.2;have h4:((y4.sn c).take n).drop i=nth (y4.sn c) i::((y4.sn c).take n).drop (i+1):=by
   rw [D4 (by simp;omega),J9 (by simp;omega),J9 (by omega)];simp
  rw [h4,<- Ab c (by omega)] at hi
  repeat' (first|refine gx ?_|refine Ex.O6 ?_|refine Ex.O8 ?_|refine Ex.cond rfl (fun ht=> ?_) (fun ht=> ?_)|refine Ex.test (Rn.text ?_)|refine Ex.test (Rn.draw ?_)|refine ⟨_,rfl,fun ht=> ?_,fun ht=> ?_⟩|refine ⟨_,rfl,?_⟩|fail)
  .simp [hi,J2,ht,j9,num]
  .exact ⟨k - 1,by omega,i+1,_,_,rfl,rfl,by omega,by omega,by simp [hi,J2,ht]⟩
 .repeat' (first|refine gx ?_|refine Ex.O6 ?_|refine Ex.O8 ?_|refine Ex.cond rfl (fun ht=> ?_) (fun ht=> ?_)|refine Ex.test (Rn.text ?_)|refine Ex.test (Rn.draw ?_)|refine ⟨_,rfl,fun ht=> ?_,fun ht=> ?_⟩|refine ⟨_,rfl,?_⟩|fail)
  have h2:((y4.sn c).take n).drop i=[]:=by
   apply n5;simp [z8] at h1;simp;omega
  rw [h2] at hi;simp [hi,J2,j9,num]
def ja (c:y4)(name:L0)(n:Nat):Int:=H9 c name (min n c.o7.length)
def aC2 (c:y4)(name:L0)(n:Nat)(hf:c.qA)(hn:n<=100000):Pf A 207 [cat c,.d (.str name),.d (num n)] (.d (num (ja c name n))):=by
 refine Pf.run [cat c,.d (.str name),.d (num n),.any,.any] rfl rfl rfl rfl ?_;refine gr ?_;have e:(if (c.o7.length:Int)<(n:Int) then (c.o7.length:Int) else (n:Int))=((min n c.o7.length:Nat):Int):=by split<;>omega
 refine cl (LU c name (min n c.o7.length) hf (by omega)) ?_ (ha:=by rw [num,<- e];rfl);refine gr ?_;exact ⟨_,rfl,rfl⟩
def Y3 (t:mH):Int->List Int->Bool
 |_,[]=>true
 |p,o::r=>F3 p o&&F3 o t.p8.length&& !(L4 (nth t.p8 o.toNat).space []&&L4 (nth t.p8 o.toNat).refs [])&&Y3 t o r
def jE (t:mH):j3:= .agg (t.enc.map .d)
def aC6 (t:mH)(xs:List Int)(hx:xs.length<=1000)(hc:t.p8.length<=1000):Pf A 245 [jE t,.d (ints xs)] (.d (.bool (Y3 t (-1) xs))):=by
 refine Pf.run [jE t,.d (ints xs),.any,.any,.any] rfl rfl rfl rfl ?_;refine gr ?_;refine Ex.N5 (fun k T H=>∃ (i:Nat) (v w:j3) (p:Int),T=[v,.d (ints xs),.ptr 0 0,w,.d (num i)]/\H=[.cells (t.enc.map .d)]/\i+k=xs.length/\p=(if i=0 then -1 else nth xs (i - 1))/\ -1<=p/\Y3 t (-1) xs=Y3 t p (xs.drop i)) (by rintro _ _ _ ⟨_,_,_,_,_,rfl,_⟩;rfl) ?_ (k:=xs.length) ⟨0,_,_, -1,rfl,rfl,by simp,by simp,by omega,by simp⟩;rintro k _ _ ⟨i,v,w,p,rfl,rfl,hk,hp,hp1,hi⟩;refine Ex.nT ?_;refine Ex.seq ?_;refine tb (F3 i xs.length) (fun h1=> ?_) (fun h1=> ?_)
 .have h2:=C6 h1
  rw [D4 (by omega)] at hi;have hq:(((i:Int) - 1).toNat)=i - 1:=by omega
  refine gr ?_;refine tB (!(A4 (nth xs i) 0 (t.p8.length - 1))||(F3 0 i&&aF (nth xs i) (nth xs (i - 1)))||(L4 (nth t.p8 (nth xs i).toNat).space []&&L4 (nth t.p8 (nth xs i).toNat).refs [])) ?_ (fun h3=> ?_) (fun h3=> ?_)
  .repeat' (first|refine cl (Il _ _ _) ?_|refine gx ?_|refine fk (h1:=fun hw=> ?_) (h2:=fun hw=> ?_)|refine U0 (h1:=fun hw=> ?_) (h2:=fun hw=> ?_)|refine ⟨rfl,rfl,_,rfl,?_⟩|refine ⟨rfl,rfl⟩|fail)
   all_goals first|(simp [*,j9,hq];done)|(simp_all [j9,hq];done)|(simp_all [j9,hq,z8,y3,o9,F8];done)|(simp_all [j9,hq,z8,y3,o9,F8]<;>omega)
  .refine gr ?_
   refine ⟨_,rfl,?_⟩;have h5:(F3 p (nth xs i)&&F3 (nth xs i) t.p8.length&& !(L4 (nth t.p8 (nth xs i).toNat).space []&&L4 (nth t.p8 (nth xs i).toNat).refs []))=false:=by
    rcases hS:(L4 (nth t.p8 (nth xs i).toNat).space []&&L4 (nth t.p8 (nth xs i).toNat).refs []) with _|_
    .simp [hS,A4,z8,y3] at h3 ⊢
     by_cases h0:i=0
     .simp [h0] at hp h3 ⊢;omega
     .simp [h0] at hp;omega
    .simp
   rw [hi,Y3,h5];simp [j9]
  .refine gr ?_
   have h5:F3 p (nth xs i)=true/\F3 (nth xs i) t.p8.length=true/\(L4 (nth t.p8 (nth xs i).toNat).space []&&L4 (nth t.p8 (nth xs i).toNat).refs [])=false:=by
    simp only [E6] at h3;refine ⟨?_,?_,h3.2⟩
    .simp [A4,z8,y3] at h3 ⊢
     by_cases h0:i=0
     .simp [h0] at hp h3 ⊢;omega
     .simp [h0] at hp;omega
    .simp [A4,z8,y3] at h3 ⊢
     omega
   refine ⟨k - 1,by omega,i+1,_,_,nth xs i,rfl,rfl,by omega,by simp,?_,?_⟩
   .have:=C6 h5.1;omega
   .rw [hi,Y3,h5.1,h5.2.1,h5.2.2]
    simp
 .refine gr ?_
  have h2:=C5 h1;rw [n5 (by omega)] at hi;exact ⟨_,rfl,by simp [hi,Y3,j9]⟩
def cz (c:y4)(n i:Nat):Int :=
 if !G7 (nth (nth c.o7 n).p8 i).name||(!L4 (nth (nth c.o7 n).p8 i).space []&& !G7 (nth (nth c.o7 n).p8 i).space) then 3
 else if ((nth c.o7 n).p8.take i).any fun y=>L4 y.name (nth (nth c.o7 n).p8 i).name then 4
 else if !L4 (nth (nth c.o7 n).p8 i).refs []&&F3 (ja c (nth (nth c.o7 n).p8 i).refs n) 0 then 7
 else if (!u0 (nth (nth c.o7 n).p8 i).type 1&& !u0 (nth (nth c.o7 n).p8 i).type 2)||(aF 0 (ja c (nth (nth c.o7 n).p8 i).refs n)&& !L4 (nth (nth c.o7 n).p8 i).refs []&& !u0 (nth (nth c.o7 (ja c (nth (nth c.o7 n).p8 i).refs n).toNat).p8 0).type (nth (nth c.o7 n).p8 i).type) then 5
 else if (!L4 (nth (nth c.o7 n).p8 i).space []&& !L4 (nth (nth c.o7 n).p8 i).refs [])|| !Y3 (nth c.o7 n) (-1) (nth (nth c.o7 n).p8 i).F7|| !A4 (nth (nth c.o7 n).p8 i).eZ 0 1||(u0 (nth (nth c.o7 n).p8 i).F7.length 0&&(!u0 (nth (nth c.o7 n).p8 i).eZ 0|| !u0 (nth (nth c.o7 n).p8 i).ji 0)) then 1
 else if !A4 (nth (nth c.o7 n).p8 i).ji 0 1048576||(!u0 (nth c.o7 n).aH 0&&F3 (nth c.o7 n).aH (nth (nth c.o7 n).p8 i).ji)||(u0 i 0&&F3 0 (nth (nth c.o7 n).p8 i).F7.length&& !u0 (nth c.o7 n).erase 1) then 1
 else if (!L4 (nth (nth c.o7 n).p8 i).refs []&&F3 0 (nth (nth c.o7 (ja c (nth (nth c.o7 n).p8 i).refs n).toNat).p8 0).F7.length)&& !hasB (nth (nth c.o7 n).p8 i).F7 i then 1
 else 0
theorem fH (name:L0):∀ (l:List L0) (i:Nat),J2 name l i= -1\/((i:Int)<=J2 name l i/\J2 name l i<i+l.length)
 |[],i=>Or.inl rfl
 |x::r,i=>by
  simp only [J2];split
  .right;simp;omega
  .rcases fH name r (i+1) with h|h
   .exact Or.inl h
   .right;simp;omega
def Mz (c:y4)(name:L0)(n:Nat):ja c name n= -1\/(0<=ja c name n/\ja c name n<n/\ja c name n<c.o7.length):=by
 unfold ja H9
 rcases fH name ((y4.sn c).take (min n c.o7.length)) 0 with h|h
 .exact Or.inl h
 .right
  simp at h;omega
set_option maxHeartbeats 8000000 in
def aZ3 (c:y4)(n i:Nat)(hf:c.qA)(hn:n<c.o7.length)(hi:i<(nth c.o7 n).p8.length)(hl:(nth c.o7 n).p8.length<=1000)(ho:(nth (nth c.o7 n).p8 i).F7.length<=1000)(hp:∀ m,m<n->0<(nth c.o7 m).p8.length):Pf A 199 [cat c,.d (num n),.d (num i)] (.d (num (cz c n i))):=by
 have hn2:n<=1000:=by obtain ⟨f0,_⟩:=hf;omega
 have hb:ja c (nth (nth c.o7 n).p8 i).refs n= -1\/(0<=ja c (nth (nth c.o7 n).p8 i).refs n/\ja c (nth (nth c.o7 n).p8 i).refs n<n/\ja c (nth (nth c.o7 n).p8 i).refs n<c.o7.length/\0<(nth c.o7 (ja c (nth (nth c.o7 n).p8 i).refs n).toNat).p8.length):=by
  rcases Mz c (nth (nth c.o7 n).p8 i).refs n with h|h
  .exact Or.inl h
  .exact Or.inr ⟨h.1,h.2.1,h.2.2,hp _ (by omega)⟩
 refine Pf.run [cat c,.d (num n),.d (num i),.any,.any,.any,.any,.any,.any] rfl rfl rfl rfl ?_;refine gr ?_;refine tB (!G7 (nth (nth c.o7 n).p8 i).name||(!L4 (nth (nth c.o7 n).p8 i).space []&& !G7 (nth (nth c.o7 n).p8 i).space)) ?_ (fun h1=> ?_) (fun h1=> ?_)
 .repeat' (first|refine cl (al2 _) ?_|refine gx ?_|refine fk (h1:=fun hw=> ?_) (h2:=fun hw=> ?_)|refine U0 (h1:=fun hw=> ?_) (h2:=fun hw=> ?_)|refine ⟨rfl,rfl,_,rfl,?_⟩|refine ⟨rfl,rfl⟩|fail)
  all_goals exact cc
 .refine gr ?_
  exact ⟨_,rfl,by simp only [j9,num,cz,h1,j5,if_true,if_false]⟩
 refine gr ?_;refine Ex.N5 (fun k T H=>∃ (j:Nat) (v w z:j3),T=[v,.d (num n),.d (num i),.ptr 0 0,w,.ptr 1 0,.ptr 2 0,.d (num j),z]/\H=[.cells (c.enc.map .d),.cells ((nth c.o7 n).enc.map .d),.cells ((nth (nth c.o7 n).p8 i).enc.map .d)]/\j+k=i/\(((nth c.o7 n).p8.take i).any fun y=>L4 y.name (nth (nth c.o7 n).p8 i).name)=((((nth c.o7 n).p8.take i).drop j).any fun y=>L4 y.name (nth (nth c.o7 n).p8 i).name)) (by rintro _ _ _ ⟨_,_,_,_,_,rfl,_⟩;rfl) ?_ (k:=i) ⟨0,_,_,_,rfl,rfl,by simp,by simp⟩;rintro k _ _ ⟨j,v,w,z,rfl,rfl,hk,hj⟩;refine Ex.nT ?_;refine Ex.seq ?_;refine tb (F3 j i) (fun h8=> ?_) (fun h8=> ?_)
 .have h9:=C6 h8
  rw [qM (by omega) (by omega)] at hj
  repeat' (first|refine gx ?_|refine Ex.O6 ?_|refine Ex.O8 ?_|refine Ex.cond rfl (fun ht=> ?_) (fun ht=> ?_)|refine Ex.test (Rn.text ?_)|refine Ex.test (Rn.draw ?_)|refine ⟨_,rfl,fun ht=> ?_,fun ht=> ?_⟩|refine ⟨_,rfl,?_⟩|fail)
  .have h2:(((nth c.o7 n).p8.take i).any fun y=>L4 y.name (nth (nth c.o7 n).p8 i).name)=true:=by rw [hj];simp [ht]
   simp only [j9,num,cz,h1,h2,j5,if_true,if_false]
  .exact ⟨k - 1,by omega,j+1,_,_,_,rfl,rfl,by omega,by rw [hj];simp [ht]⟩
 have h9:=C5 h8;rw [n5 (by simp;omega)] at hj;have h2:(((nth c.o7 n).p8.take i).any fun y=>L4 y.name (nth (nth c.o7 n).p8 i).name)=false:=by rw [hj];rfl
 clear hj h8 hk
 repeat' (first|refine cl (aC2 c (nth (nth c.o7 n).p8 i).refs n hf (by omega)) ?_|refine gx ?_|fail)
 refine tb (!L4 (nth (nth c.o7 n).p8 i).refs []&&F3 (ja c (nth (nth c.o7 n).p8 i).refs n) 0) (fun h3=> ?_) (fun h3=> ?_)
 .refine gr ?_
  exact ⟨_,rfl,by simp only [j9,num,cz,h1,h2,h3,j5,if_true,if_false]⟩
 have h3' :(!L4 (nth (nth c.o7 n).p8 i).refs [])=true->0<=ja c (nth (nth c.o7 n).p8 i).refs n:=fun h=>by
  simp only [h,Bool.true_and] at h3;exact C5 h3
 have h3q:(!L4 (nth (nth c.o7 n).p8 i).refs [])=true->0<(nth c.o7 (ja c (nth (nth c.o7 n).p8 i).refs n).toNat).p8.length:=fun h=>by have:=h3' h;omega
 refine tb ((!u0 (nth (nth c.o7 n).p8 i).type 1&& !u0 (nth (nth c.o7 n).p8 i).type 2)||(aF 0 (ja c (nth (nth c.o7 n).p8 i).refs n)&& !L4 (nth (nth c.o7 n).p8 i).refs []&& !u0 (nth (nth c.o7 (ja c (nth (nth c.o7 n).p8 i).refs n).toNat).p8 0).type (nth (nth c.o7 n).p8 i).type)) (fun h4=> ?_) (fun h4=> ?_)
 .refine gr ?_
  exact ⟨_,rfl,by simp only [j9,num,cz,h1,h2,h3,h4,j5,if_true,if_false]⟩
 refine tB ((!L4 (nth (nth c.o7 n).p8 i).space []&& !L4 (nth (nth c.o7 n).p8 i).refs [])|| !Y3 (nth c.o7 n) (-1) (nth (nth c.o7 n).p8 i).F7|| !A4 (nth (nth c.o7 n).p8 i).eZ 0 1||(u0 (nth (nth c.o7 n).p8 i).F7.length 0&&(!u0 (nth (nth c.o7 n).p8 i).eZ 0|| !u0 (nth (nth c.o7 n).p8 i).ji 0))) ?_ (fun h5=> ?_) (fun h5=> ?_)
 .repeat' (first|refine cl (aC6 (nth c.o7 n) (nth (nth c.o7 n).p8 i).F7 ho hl) ?_|refine cl (Il _ _ _) ?_|refine gx ?_|refine fk (h1:=fun hw=> ?_) (h2:=fun hw=> ?_)|refine U0 (h1:=fun hw=> ?_) (h2:=fun hw=> ?_)|refine ⟨rfl,rfl,_,rfl,?_⟩|refine ⟨rfl,rfl⟩|fail)
  all_goals exact cc
 .refine gr ?_
  exact ⟨_,rfl,by simp only [j9,num,cz,h1,h2,h3,h4,h5,j5,if_true,if_false]⟩
 refine tB (!A4 (nth (nth c.o7 n).p8 i).ji 0 1048576||(!u0 (nth c.o7 n).aH 0&&F3 (nth c.o7 n).aH (nth (nth c.o7 n).p8 i).ji)||(u0 i 0&&F3 0 (nth (nth c.o7 n).p8 i).F7.length&& !u0 (nth c.o7 n).erase 1)) ?_ (fun h6=> ?_) (fun h6=> ?_)
 .repeat' (first|refine cl (Il _ _ _) ?_|refine gx ?_|refine fk (h1:=fun hw=> ?_) (h2:=fun hw=> ?_)|refine U0 (h1:=fun hw=> ?_) (h2:=fun hw=> ?_)|refine ⟨rfl,rfl,_,rfl,?_⟩|refine ⟨rfl,rfl⟩|fail)
  all_goals exact cc
 .refine gr ?_
  exact ⟨_,rfl,by simp only [j9,num,cz,h1,h2,h3,h4,h5,h6,j5,if_true,if_false]⟩
 refine tB ((!L4 (nth (nth c.o7 n).p8 i).refs []&&F3 0 (nth (nth c.o7 (ja c (nth (nth c.o7 n).p8 i).refs n).toNat).p8 0).F7.length)&& !hasB (nth (nth c.o7 n).p8 i).F7 i) ?_ (fun h7=> ?_) (fun h7=> ?_)
 .repeat' (first|refine cl (aZ1 (nth (nth c.o7 n).p8 i).F7 i ho) ?_|refine ixZ (hi:=⟨h3' hw,by omega⟩) (h2:= ?_)|refine ixN (hi:=h3q hw) (h2:= ?_)|refine gx ?_|refine fk (h1:=fun hw=> ?_) (h2:=fun hw=> ?_)|refine U0 (h1:=fun hw=> ?_) (h2:=fun hw=> ?_)|refine ⟨rfl,rfl,_,rfl,?_⟩|refine ⟨rfl,rfl⟩|fail)
  all_goals exact cc
 .refine gr ?_
  exact ⟨_,rfl,by simp only [j9,num,cz,h1,h2,h3,h4,h5,h6,h7,j5,if_true,if_false]⟩
 refine gr ?_;exact ⟨_,rfl,by simp only [j9,num,cz,h1,h2,h3,h4,h5,h6,h7,j5,if_true,if_false]⟩
def fR (c:y4)(n:Nat):Nat->Nat->Int
 |0,_=>0
 |k+1,i=>if !u0 (cz c n i) 0 then cz c n i else fR c n k (i+1)
def fM (c:y4)(n:Nat):Int :=
 if !A4 (nth c.o7 n).p8.length 1 8|| !A4 (nth c.o7 n).erase 0 1|| !A4 (nth c.o7 n).aH 0 1048576 then 1 else fR c n (nth c.o7 n).p8.length 0
structure y4.small (c:y4):Prop where
 qA:c.qA
 p8:∀ n,n<c.o7.length->(nth c.o7 n).p8.length<=1000
 F7:∀ n i,n<c.o7.length->i<(nth c.o7 n).p8.length->(nth (nth c.o7 n).p8 i).F7.length<=1000
def aY7 (c:y4)(n:Nat)(hf:y4.small c)(hn:n<c.o7.length)(hp:∀ m,m<n->0<(nth c.o7 m).p8.length):Pf A 144 [cat c,.d (num n)] (.d (num (fM c n))):=by
 have hl:=hf.p8 n hn;refine Pf.run [cat c,.d (num n),.any,.any,.any,.any,.any] rfl rfl rfl rfl ?_;refine gr ?_;refine tB (!A4 (nth c.o7 n).p8.length 1 8|| !A4 (nth c.o7 n).erase 0 1|| !A4 (nth c.o7 n).aH 0 1048576) ?_ (fun h1=> ?_) (fun h1=> ?_)
 .repeat' (first|refine cl (Il _ _ _) ?_|refine gx ?_|refine fk (h1:=fun hw=> ?_) (h2:=fun hw=> ?_)|refine U0 (h1:=fun hw=> ?_) (h2:=fun hw=> ?_)|refine ⟨rfl,rfl,_,rfl,?_⟩|refine ⟨rfl,rfl⟩|fail)
  all_goals exact cc
 .refine gr ?_
  exact ⟨_,rfl,by simp only [j9,num,fM,h1,if_true]⟩
 refine gr ?_;refine Ex.N5 (fun k T H=>∃ (i:Nat) (v w z:j3),T=[v,.d (num n),.ptr 0 0,w,.ptr 1 0,.d (num i),z]/\H=[.cells (c.enc.map .d),.cells ((nth c.o7 n).enc.map .d)]/\i+k=(nth c.o7 n).p8.length/\fM c n=fR c n k i) (by rintro _ _ _ ⟨_,_,_,_,_,rfl,_⟩;rfl) ?_ (k:=(nth c.o7 n).p8.length) ⟨0,_,_,_,rfl,rfl,by simp,by simp only [fM,h1,j5,if_false]⟩;rintro k _ _ ⟨i,v,w,z,rfl,rfl,hk,hi⟩;refine Ex.nT ?_;refine Ex.seq ?_;refine tb (F3 i (nth c.o7 n).p8.length) (fun h2=> ?_) (fun h2=> ?_)
 .have h3:=C6 h2
  obtain ⟨k,rfl⟩:∃ k',k=k' +1:=⟨k - 1,by omega⟩
  repeat' (first|refine cl (aZ3 c n i hf.qA hn (by omega) hl (hf.F7 n i hn (by omega)) hp) ?_|refine gx ?_|refine Ex.O6 ?_|refine Ex.O8 ?_|refine Ex.cond rfl (fun ht=> ?_) (fun ht=> ?_)|refine Ex.test (Rn.text ?_)|refine Ex.test (Rn.draw ?_)|refine ⟨_,rfl,fun ht=> ?_,fun ht=> ?_⟩|refine ⟨_,rfl,?_⟩|fail)
  .simp [j9,hi,fR,ht]
  .exact ⟨k,by omega,i+1,_,_,_,rfl,rfl,by omega,by simp [hi,fR,ht]⟩
 .have h3:=C5 h2
  obtain rfl:k=0:=by omega
  refine gr ?_;exact ⟨_,rfl,by simp [j9,hi,fR,num]⟩
def jU (v:Vw):Bool:=(!L4 v.right []||u0 v.on.length 0)&&aF v.on.length 8&&aF (v.items.length+v.D2.length) 8
def bP (v:Vw):Bool :=
 if u0 v.kind 2 then !L4 v.right []&&u0 v.on.length 0&&u0 v.wh.length 0&&u0 v.items.length 0&&u0 v.D2.length 0&& !v.distinct
 else if u0 v.kind 0 then !(u0 v.items.length 0||F3 0 v.D2.length)&&jU v
 else !(u0 v.D2.length 0||v.distinct)&&jU v
def vw (v:Vw):j3:= .agg (v.enc.map .d)
set_option maxHeartbeats 8000000 in
def aZ4 (c:y4)(v:Vw)(h0:v.items.length<=1000)(h1:v.D2.length<=1000):Pf A 200 [cat c,vw v] (.d (.bool (bP v))):=by
 refine Pf.run [cat c,vw v,.any,.any,.any] rfl rfl rfl rfl ?_
 repeat' (first|refine gx ?_|refine fk (h1:=fun hw=> ?_) (h2:=fun hw=> ?_)|refine U0 (h1:=fun hw=> ?_) (h2:=fun hw=> ?_)|refine Ex.O6 ?_|refine Ex.O8 ?_|refine Ex.cond rfl (fun ht=> ?_) (fun ht=> ?_)|refine Ex.test (Rn.text ?_)|refine Ex.test (Rn.draw ?_)|refine ⟨_,rfl,fun ht=> ?_,fun ht=> ?_⟩|refine ⟨_,rfl,?_⟩|fail)
 all_goals first|(simp [*,j9,bP,jU];done)|(simp_all [j9,bP,jU];done)|(simp_all [j9,bP,jU,z8,y3,o9,F8];done)|(simp_all [j9,bP,jU,z8,y3,o9,F8]<;>omega)
def I4 (l r:List Int):List (Int×Int)->Int
 |[]=>0
 |p::ps=>if !A4 p.1 0 (l.length - 1)|| !A4 p.2 0 (r.length - 1) then 3 else if !u0 (nth l p.1.toNat) (nth r p.2.toNat) then 5 else I4 l r ps
def aZ6 (on:List (Int×Int))(l r:List Int)(h0:on.length<=1000)(h1:l.length<=100000)(h2:r.length<=100000):Pf A 202 [.d (A5 (fun p=>[num p.1,num p.2]) on),.d (ints l),.d (ints r)] (.d (num (I4 l r on))):=by
 refine Pf.run [.d (A5 (fun p=>[num p.1,num p.2]) on),.d (ints l),.d (ints r),.any,.any] rfl rfl rfl rfl ?_;refine gr ?_;refine Ex.N5 (fun k T H=>∃ (i:Nat) (v:j3),T=[.d (A5 (fun p=>[num p.1,num p.2]) on),.d (ints l),.d (ints r),v,.d (num i)]/\H=[]/\i+k=on.length/\I4 l r on=I4 l r (on.drop i)) (by rintro _ _ _ ⟨_,_,_,rfl,_⟩;rfl) ?_ (k:=on.length) ⟨0,_,rfl,rfl,by simp,by simp⟩;rintro k _ _ ⟨i,v,rfl,rfl,hk,hi⟩;refine Ex.nT ?_;refine Ex.seq ?_;refine tb (F3 i on.length) (fun h3=> ?_) (fun h3=> ?_)
 .have h4:=C6 h3
  rw [D4 (by omega)] at hi;refine gr ?_;refine tB (!A4 (nth on i).1 0 (l.length - 1)|| !A4 (nth on i).2 0 (r.length - 1)) ?_ (fun h5=> ?_) (fun h5=> ?_)
  .repeat' (first|refine cl (Il _ _ _) ?_|refine gx ?_|refine fk (h1:=fun hw=> ?_) (h2:=fun hw=> ?_)|refine U0 (h1:=fun hw=> ?_) (h2:=fun hw=> ?_)|refine ⟨rfl,rfl,_,rfl,?_⟩|refine ⟨rfl,rfl⟩|fail)
   all_goals exact cc
  .refine gr ?_
   exact ⟨_,rfl,by simp only [j9,num,hi,I4,h5,if_true]⟩
  have h6:=h5;simp [A4,y3] at h6
  repeat' (first|refine gx ?_|refine Ex.O6 ?_|refine Ex.O8 ?_|refine Ex.cond rfl (fun ht=> ?_) (fun ht=> ?_)|refine Ex.test (Rn.text ?_)|refine Ex.test (Rn.draw ?_)|refine ⟨_,rfl,fun ht=> ?_,fun ht=> ?_⟩|refine ⟨_,rfl,?_⟩|fail)
  .simp only [j9,num,hi,I4,h5,ht,j5,if_true,if_false]
  .exact ⟨k - 1,by omega,i+1,_,rfl,rfl,by omega,by simp only [hi,I4,h5,ht,j5,if_false]⟩
 .have h4:=C5 h3
  rw [n5 (by omega)] at hi;refine gr ?_;exact ⟨_,rfl,by simp [j9,hi,I4,num]⟩
end Go.Proofs.YtibjocmpkoepoaaGreat

