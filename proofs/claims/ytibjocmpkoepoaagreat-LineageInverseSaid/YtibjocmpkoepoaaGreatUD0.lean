import Derived.Test.YtibjocmpkoepoaaGreatUAbs
set_option linter.all false
open Bool renaming and_eq_true → c7, false_eq_true → j3, not_eq_false' → C7, not_eq_true' → n5, or_eq_false_iff → F3
open List renaming append_assoc → E8, drop_of_length_le → l5, length_append → o8, mem_cons → B4, take_of_length_le → B5
open Nat renaming lt_or_ge → y4
namespace Go.Proofs.YtibjocmpkoepoaaGreat
open Go.x9 Go.x9.S
attribute [local irreducible] Rx Ry Rn Ex Pf
def bU (n:Int):Bool:=ah 97 n&&ah n 122
def jQ (n:Int):Bool:=ah 48 n&&ah n 57
def me (n:Int):Bool:=bU n||jQ n||s8 n 95
def H6:L3->Bool
 |[]=>false
 |c::r=>F0 r.length 16&&bU c.toNat&&(c::r).all fun c=>me c.toNat
def aI9 (n:Int):Pf A 197 [.d (.int .u8 n)] (.d (.bool (bU n))):=by
 refine Pf.run [.d (.int .u8 n),.any] rfl rfl rfl rfl ?_
 repeat' (first|refine gx ?_|refine fk (h1:=fun hw=> ?_) (h2:=fun hw=> ?_)|refine R8 (h1:=fun hw=> ?_) (h2:=fun hw=> ?_)|refine Ex.O6 ?_|refine Ex.P0 ?_|refine Ex.cond rfl (fun ht=> ?_) (fun ht=> ?_)|refine Ex.test (Rn.text ?_)|refine Ex.test (Rn.draw ?_)|refine ⟨_,rfl,fun ht=> ?_,fun ht=> ?_⟩|refine ⟨_,rfl,?_⟩|fail)
 all_goals simp_all [j7,bU]
def aG9 (n:Int):Pf A 244 [.d (.int .u8 n)] (.d (.bool (jQ n))):=by
 refine Pf.run [.d (.int .u8 n),.any] rfl rfl rfl rfl ?_
 repeat' (first|refine gx ?_|refine fk (h1:=fun hw=> ?_) (h2:=fun hw=> ?_)|refine R8 (h1:=fun hw=> ?_) (h2:=fun hw=> ?_)|refine Ex.O6 ?_|refine Ex.P0 ?_|refine Ex.cond rfl (fun ht=> ?_) (fun ht=> ?_)|refine Ex.test (Rn.text ?_)|refine Ex.test (Rn.draw ?_)|refine ⟨_,rfl,fun ht=> ?_,fun ht=> ?_⟩|refine ⟨_,rfl,?_⟩|fail)
 all_goals simp_all [j7,jQ]
def bm7 (n:Int):Pf A 198 [.d (.int .u8 n)] (.d (.bool (me n))):=by
 refine Pf.run [.d (.int .u8 n),.any] rfl rfl rfl rfl ?_
 repeat' (first|refine cl (aI9 _) ?_|refine cl (aG9 _) ?_|refine gx ?_|refine fk (h1:=fun hw=> ?_) (h2:=fun hw=> ?_)|refine R8 (h1:=fun hw=> ?_) (h2:=fun hw=> ?_)|refine Ex.O6 ?_|refine Ex.P0 ?_|refine Ex.cond rfl (fun ht=> ?_) (fun ht=> ?_)|refine Ex.test (Rn.text ?_)|refine Ex.test (Rn.draw ?_)|refine ⟨_,rfl,fun ht=> ?_,fun ht=> ?_⟩|refine ⟨_,rfl,?_⟩|fail)
 all_goals simp_all [j7,me]
def ap3 (s:L3):Pf A 143 [.d (.str s)] (.d (.bool (H6 s))):=by
 refine Pf.run [.d (.str s),.any,.any] rfl rfl rfl rfl ?_;refine gr ?_;refine Ex.VT (match s with|[]=>true|c::r=> !(F0 r.length 16&&bU c.toNat)) (Rn.text ?_) (fun ht=> ?_) (fun ht=> ?_)
 .repeat' (first|refine cl (aI9 _) ?_|refine gx ?_|refine fk (h1:=fun hw=> ?_) (h2:=fun hw=> ?_)|refine R8 (h1:=fun hw=> ?_) (h2:=fun hw=> ?_)|refine ⟨rfl,rfl,_,rfl,?_⟩|refine ⟨rfl,rfl⟩|fail)
  all_goals cases s
  all_goals first|(simp [*,j7,V0];done)|(simp_all [j7,V0];done)|(simp_all [j7,V0,y3,s9,o6,H7];done)|(simp_all [j7,V0,y3,s9,o6,H7]<;>omega)
 .refine gr ?_
  refine ⟨_,rfl,?_⟩;cases s with
  |nil=>rfl
  |cons c r =>
   simp only [n5] at ht;simp only [H6,ht,j7,Bool.false_and]
 .cases s with
  |nil=>cases ht
  |cons c r =>
  have hl:=ht;simp [y3] at hl;have hb:(c::r).length<=16:=by simp;omega
  refine gr ?_;refine Ex.M5 (fun k T H=>∃ (i:Nat) (v:c8),T=[.d (.str (c::r)),v,.d (.int .i64 i)]/\H=[]/\i+k=(c::r).length/\H6 (c::r)=((c::r).drop i).all fun c=>me c.toNat) (by rintro _ _ _ ⟨_,_,_,rfl,_⟩;rfl) ?_ (k:=(c::r).length) ⟨0,_,rfl,rfl,by simp,by simp [H6,hl,y3]⟩;rintro k _ _ ⟨i,v,rfl,rfl,hk,hi⟩;refine Ex.nT ?_
  repeat' (first|refine cl (bm7 _) ?_|refine gx ?_|refine Ex.O6 ?_|refine Ex.P0 ?_|refine Ex.cond rfl (fun ht=> ?_) (fun ht=> ?_)|refine Ex.test (Rn.text ?_)|refine Ex.test (Rn.draw ?_)|refine ⟨_,rfl,fun ht=> ?_,fun ht=> ?_⟩|refine ⟨_,rfl,?_⟩|fail)
  .simp only [n5] at ht
   simp only [j7];have h1:=A9 ‹_›;rw [hi,B9 (by omega)];simp [ht]
  .have h1:=A9 ‹_›
   rw [B9 (by omega)] at hi;simp only [C7] at ht;refine ⟨k - 1,by omega,i+1,_,rfl,rfl,by omega,?_⟩;rw [hi];simp [ht]
  .have h1:=B8 ‹_›
   rw [l5 (by omega)] at hi;simp [hi,j7]
def IW (n a b:Int):Pf A 111 [.d (num n),.d (num a),.d (num b)] (.d (.bool (y7 n a b))):=by
 refine Pf.run [.d (num n),.d (num a),.d (num b),.any] rfl rfl rfl rfl ?_
 repeat' (first|refine gx ?_|refine fk (h1:=fun hw=> ?_) (h2:=fun hw=> ?_)|refine R8 (h1:=fun hw=> ?_) (h2:=fun hw=> ?_)|refine Ex.O6 ?_|refine Ex.P0 ?_|refine Ex.cond rfl (fun ht=> ?_) (fun ht=> ?_)|refine Ex.test (Rn.text ?_)|refine Ex.test (Rn.draw ?_)|refine ⟨_,rfl,fun ht=> ?_,fun ht=> ?_⟩|refine ⟨_,rfl,?_⟩|fail)
 all_goals first|(simp [*,j7,y7];done)|(simp_all [j7,y7];done)|(simp_all [j7,y7,y3,s9,o6,H7];done)|(simp_all [j7,y7,y3,s9,o6,H7]<;>omega)
def IU (n a b:Int):Pf A 210 [.d (num n),.d (num a),.d (num b)] (.d (.bool (y7 n a b))):=by
 refine Pf.run [.d (num n),.d (num a),.d (num b),.any] rfl rfl rfl rfl ?_
 repeat' (first|refine gx ?_|refine fk (h1:=fun hw=> ?_) (h2:=fun hw=> ?_)|refine R8 (h1:=fun hw=> ?_) (h2:=fun hw=> ?_)|refine Ex.O6 ?_|refine Ex.P0 ?_|refine Ex.cond rfl (fun ht=> ?_) (fun ht=> ?_)|refine Ex.test (Rn.text ?_)|refine Ex.test (Rn.draw ?_)|refine ⟨_,rfl,fun ht=> ?_,fun ht=> ?_⟩|refine ⟨_,rfl,?_⟩|fail)
 all_goals first|(simp [*,j7,y7];done)|(simp_all [j7,y7];done)|(simp_all [j7,y7,y3,s9,o6,H7];done)|(simp_all [j7,y7,y3,s9,o6,H7]<;>omega)
def ad7 (n:Int):Pf A 250 [.d (num n)] (.d (.bool (s8 n 1||s8 n 2))):=by
 refine Pf.run [.d (num n),.any] rfl rfl rfl rfl ?_
 repeat' (first|refine gx ?_|refine fk (h1:=fun hw=> ?_) (h2:=fun hw=> ?_)|refine R8 (h1:=fun hw=> ?_) (h2:=fun hw=> ?_)|refine Ex.O6 ?_|refine Ex.P0 ?_|refine Ex.cond rfl (fun ht=> ?_) (fun ht=> ?_)|refine Ex.test (Rn.text ?_)|refine Ex.test (Rn.draw ?_)|refine ⟨_,rfl,fun ht=> ?_,fun ht=> ?_⟩|refine ⟨_,rfl,?_⟩|fail)
 all_goals exact cc
def ints (l:List Int):x9.Data:=z8 (fun n=>[num n]) l
def hasB (l:List Int)(n:Int):Bool:=l.any fun x=>s8 x n
def bm6 (xs:List Int)(n:Int)(hx:xs.length<=1000):Pf A 246 [.d (ints xs),.d (num n)] (.d (.bool (hasB xs n))):=by
 refine Pf.run [.d (ints xs),.d (num n),.any,.any] rfl rfl rfl rfl ?_;refine gr ?_;refine Ex.M5 (fun k T H=>∃ (i:Nat) (v:c8),T=[.d (ints xs),.d (num n),v,.d (num i)]/\H=[]/\i+k=xs.length/\hasB xs n=(xs.drop i).any fun x=>s8 x n) (by rintro _ _ _ ⟨_,_,_,rfl,_⟩;rfl) ?_ (k:=xs.length) ⟨0,_,rfl,rfl,by simp,by simp [hasB]⟩;rintro k _ _ ⟨i,v,rfl,rfl,hk,hi⟩;refine Ex.nT ?_
 repeat' (first|refine gx ?_|refine Ex.O6 ?_|refine Ex.P0 ?_|refine Ex.cond rfl (fun ht=> ?_) (fun ht=> ?_)|refine Ex.test (Rn.text ?_)|refine Ex.test (Rn.draw ?_)|refine ⟨_,rfl,fun ht=> ?_,fun ht=> ?_⟩|refine ⟨_,rfl,?_⟩|fail)
 .have h1:=A9 ‹F0 i _=true›
  rw [B9 (by omega)] at hi;simp [hi,ht,j7]
 .have h1:=A9 ‹F0 i _=true›
  rw [B9 (by omega)] at hi;exact ⟨k - 1,by omega,i+1,_,rfl,rfl,by omega,by simp [hi,ht]⟩
 .have h1:=B8 ht
  rw [l5 (by omega)] at hi;simp [hi,j7]
def dH {α:Type}(eq:α->α->Bool):List α->List α->Bool
 |[],[]=>true
 |a::l,c::m=>eq a c&&dH eq l m
 |_,_=>false
theorem pZ {α:Type}{eq:α->α->Bool}:∀ {l m:List α},l.length≠m.length->dH eq l m=false
 |[],[],h=>absurd rfl h
 |[],_::_,_=>rfl
 |_::_,[],_=>rfl
 |a::l,c::m,h=>by simp only [dH,pZ (l:=l) (m:=m) (by simpa using h),Bool.and_false]
def bn0 (xs ys:List Int)(hx:xs.length<=100000):Pf A 201 [.d (ints xs),.d (ints ys)] (.d (.bool (dH s8 xs ys))):=by
 refine Pf.run [.d (ints xs),.d (ints ys),.any,.any] rfl rfl rfl rfl ?_
 repeat' (first|refine gx ?_|refine Ex.O6 ?_|refine Ex.P0 ?_|refine Ex.cond rfl (fun ht=> ?_) (fun ht=> ?_)|refine Ex.test (Rn.text ?_)|refine Ex.test (Rn.draw ?_)|refine ⟨_,rfl,fun ht=> ?_,fun ht=> ?_⟩|refine ⟨_,rfl,?_⟩|fail)
 .have h1:xs.length≠ys.length:=by simp [o6] at ht;omega
  simp [pZ h1,j7]
 have hl:xs.length=ys.length:=by simp [o6] at ht;omega
 refine Ex.M5 (fun k T H=>∃ (i:Nat) (v:c8),T=[.d (ints xs),.d (ints ys),v,.d (num i)]/\H=[]/\i+k=xs.length/\dH s8 xs ys=dH s8 (xs.drop i) (ys.drop i)) (by rintro _ _ _ ⟨_,_,_,rfl,_⟩;rfl) ?_ (k:=xs.length) ⟨0,_,rfl,rfl,by simp,by simp⟩;rintro k _ _ ⟨i,v,rfl,rfl,hk,hi⟩;refine Ex.nT ?_
 repeat' (first|refine gx ?_|refine Ex.O6 ?_|refine Ex.P0 ?_|refine Ex.cond rfl (fun ht=> ?_) (fun ht=> ?_)|refine Ex.test (Rn.text ?_)|refine Ex.test (Rn.draw ?_)|refine ⟨_,rfl,fun ht=> ?_,fun ht=> ?_⟩|refine ⟨_,rfl,?_⟩|fail)
 .have h1:=A9 ‹F0 i _=true›
  rw [B9 (by omega),B9 (l:=ys) (by omega)] at hi;simp only [n5] at ht;simp [hi,dH,ht,j7]
 .have h1:=A9 ‹F0 i _=true›
  rw [B9 (by omega),B9 (l:=ys) (by omega)] at hi;simp only [C7] at ht;exact ⟨k - 1,by omega,i+1,_,rfl,rfl,by omega,by simp [hi,dH,ht]⟩
 .have h1:=B8 ht
  rw [l5 (by omega),l5 (by omega)] at hi;simp [hi,dH,j7]
def ad3 (xs ys:List Int)(hx:xs.length<=100000):Pf A 218 [.d (ints xs),.d (ints ys)] (.d (.bool (dH s8 xs ys))):=by
 refine Pf.run [.d (ints xs),.d (ints ys),.any,.any,.any,.any] rfl rfl rfl rfl ?_
 repeat' (first|refine gx ?_|refine Ex.O6 ?_|refine Ex.P0 ?_|refine Ex.cond rfl (fun ht=> ?_) (fun ht=> ?_)|refine Ex.test (Rn.text ?_)|refine Ex.test (Rn.draw ?_)|refine ⟨_,rfl,fun ht=> ?_,fun ht=> ?_⟩|refine ⟨_,rfl,?_⟩|fail)
 .have h1:xs.length≠ys.length:=by simp [o6] at ht;omega
  simp [pZ h1,j7]
 have hl:xs.length=ys.length:=by simp [o6] at ht;omega
 refine Ex.M5 (fun k T H=>∃ (i:Nat) (v w:c8),T=[.d (ints xs),.d (ints ys),v,w,.d (num xs.length),.d (num i)]/\H=[]/\i+k=xs.length/\dH s8 xs ys=dH s8 (xs.drop i) (ys.drop i)) (by rintro _ _ _ ⟨_,_,_,_,rfl,_⟩;rfl) ?_ (k:=xs.length) ⟨0,_,_,rfl,rfl,by simp,by simp⟩;rintro k _ _ ⟨i,v,w,rfl,rfl,hk,hi⟩;refine Ex.nT ?_
 repeat' (first|refine gx ?_|refine Ex.O6 ?_|refine Ex.P0 ?_|refine Ex.cond rfl (fun ht=> ?_) (fun ht=> ?_)|refine Ex.test (Rn.text ?_)|refine Ex.test (Rn.draw ?_)|refine ⟨_,rfl,fun ht=> ?_,fun ht=> ?_⟩|refine ⟨_,rfl,?_⟩|fail)
 .have h1:=A9 ‹F0 i _=true›
  rw [B9 (by omega),B9 (l:=ys) (by omega)] at hi;simp only [n5] at ht;simp [hi,dH,ht,j7]
 .have h1:=A9 ‹F0 i _=true›
  rw [B9 (by omega),B9 (l:=ys) (by omega)] at hi;simp only [C7] at ht;exact ⟨k - 1,by omega,i+1,_,_,rfl,rfl,by omega,by simp [hi,dH,ht]⟩
 .have h1:=B8 ht
  rw [l5 (by omega),l5 (by omega)] at hi;simp [hi,dH,j7]
def val (k n:Int)(s:L3):c8:= .agg [.d (num k),.d (num n),.d (.str s)]
def trm (t:Y6):c8:= .agg (t.enc.map .d)
set_option maxHeartbeats 2000000 in
def aI3 (k n:Int)(s:L3):Pf A 228 [val k n s] (.d (.bool (gN k n s))):=by
 refine Pf.run [val k n s,.any,.any,.any] rfl rfl rfl rfl ?_
 repeat' (first|refine gx ?_|refine fk (h1:=fun hw=> ?_) (h2:=fun hw=> ?_)|refine R8 (h1:=fun hw=> ?_) (h2:=fun hw=> ?_)|refine Ex.O6 ?_|refine Ex.P0 ?_|refine Ex.cond rfl (fun ht=> ?_) (fun ht=> ?_)|refine Ex.test (Rn.text ?_)|refine Ex.test (Rn.draw ?_)|refine ⟨_,rfl,fun ht=> ?_,fun ht=> ?_⟩|refine ⟨_,rfl,?_⟩|fail)
 all_goals first|(simp [*,j7,gN];done)|(simp_all [j7,gN];done)|(simp_all [j7,gN,y3,s9,o6,H7];done)|(simp_all [j7,gN,y3,s9,o6,H7]<;>omega)
set_option maxHeartbeats 2000000 in
def aI4 (k n:Int)(s:L3):Pf A 303 [val k n s] (.d (.bool (gN k n s))):=by
 refine Pf.run [val k n s,.any,.any,.any] rfl rfl rfl rfl ?_
 repeat' (first|refine gx ?_|refine fk (h1:=fun hw=> ?_) (h2:=fun hw=> ?_)|refine R8 (h1:=fun hw=> ?_) (h2:=fun hw=> ?_)|refine Ex.O6 ?_|refine Ex.P0 ?_|refine Ex.cond rfl (fun ht=> ?_) (fun ht=> ?_)|refine Ex.test (Rn.text ?_)|refine Ex.test (Rn.draw ?_)|refine ⟨_,rfl,fun ht=> ?_,fun ht=> ?_⟩|refine ⟨_,rfl,?_⟩|fail)
 all_goals first|(simp [*,j7,gN];done)|(simp_all [j7,gN];done)|(simp_all [j7,gN,y3,s9,o6,H7];done)|(simp_all [j7,gN,y3,s9,o6,H7]<;>omega)
set_option maxHeartbeats 2000000 in
def ae6 (t:Y6):Pf A 272 [trm t] (.d (.bool (cS t))):=by
 refine Pf.run [trm t,.any,.any,.any] rfl rfl rfl rfl ?_
 repeat' (first|refine cl (aI3 _ _ _) ?_|refine gx ?_|refine fk (h1:=fun hw=> ?_) (h2:=fun hw=> ?_)|refine R8 (h1:=fun hw=> ?_) (h2:=fun hw=> ?_)|refine Ex.O6 ?_|refine Ex.P0 ?_|refine Ex.cond rfl (fun ht=> ?_) (fun ht=> ?_)|refine Ex.test (Rn.text ?_)|refine Ex.test (Rn.draw ?_)|refine ⟨_,rfl,fun ht=> ?_,fun ht=> ?_⟩|refine ⟨_,rfl,?_⟩|fail)
 all_goals first|(simp [*,j7,cS,zeroV];done)|(simp_all [j7,cS,zeroV];done)|(simp_all [j7,cS,zeroV,y3,s9,o6,H7];done)|(simp_all [j7,cS,zeroV,y3,s9,o6,H7]<;>omega)
set_option maxHeartbeats 2000000 in
def UI (op:Int):Pf A 141 [.d (num op)] (.d (num (nq op))):=by
 refine Pf.run [.d (num op),.any,.any,.any,.any] rfl rfl rfl rfl ?_
 repeat' (first|refine gx ?_|refine fk (h1:=fun hw=> ?_) (h2:=fun hw=> ?_)|refine R8 (h1:=fun hw=> ?_) (h2:=fun hw=> ?_)|refine Ex.O6 ?_|refine Ex.P0 ?_|refine Ex.cond rfl (fun ht=> ?_) (fun ht=> ?_)|refine Ex.test (Rn.text ?_)|refine Ex.test (Rn.draw ?_)|refine ⟨_,rfl,fun ht=> ?_,fun ht=> ?_⟩|refine ⟨_,rfl,?_⟩|fail)
 all_goals first|(simp [*,j7,nq,num];done)|(simp_all [j7,nq,num];done)|(simp_all [j7,nq,num,y3,s9,o6,H7];done)|(simp_all [j7,nq,num,y3,s9,o6,H7]<;>omega)
set_option maxHeartbeats 8000000 in
def UL (op:Int):Pf A 290 [.d (num op)] (.d (num (nq op))):=by
 refine Pf.run [.d (num op),.any,.any,.any,.any,.any] rfl rfl rfl rfl ?_
 repeat' (first|refine gx ?_|refine fk (h1:=fun hw=> ?_) (h2:=fun hw=> ?_)|refine R8 (h1:=fun hw=> ?_) (h2:=fun hw=> ?_)|refine Ex.O6 ?_|refine Ex.P0 ?_|refine Ex.cond rfl (fun ht=> ?_) (fun ht=> ?_)|refine Ex.test (Rn.text ?_)|refine Ex.test (Rn.draw ?_)|refine ⟨_,rfl,fun ht=> ?_,fun ht=> ?_⟩|refine ⟨_,rfl,?_⟩|fail)
 all_goals first|(simp [*,j7,nq,num];done)|(simp_all [j7,nq,num];done)|(simp_all [j7,nq,num,y3,s9,o6,H7];done)|(simp_all [j7,nq,num,y3,s9,o6,H7]<;>omega)
def aW (e:List Y6):c8:= .d (z8 Y6.enc e)
def rA (e:List Y6)(d p:Nat):Int:=match M9 d (e.drop p) with
 |none=> -1
 |some (_,r)=>((e.length - r.length:Nat):Int)
def Fc (e:List Y6)(d k p:Nat):Int:=match eo (M9 d) k (e.drop p) with
 |none=> -1
 |some (_,r)=>((e.length - r.length:Nat):Int)
def Qy {e:List Y6}{d p:Nat}(hp:p<e.length)(h:yu (nth e p)=true):rA e (d+1) p=Fc e d (nq (nth e p).op).toNat (p+1):=by
 simp only [rA,Fc];rw [B9 hp,M9,h,if_pos rfl];cases eo (M9 d) (nq (nth e p).op).toNat (e.drop (p+1)) with
 |none=>rfl
 |some x=>rfl
def CP {e:List Y6}{d p:Nat}(h:e.length<=p\/d=0\/yu (nth e p)=false):rA e d p= -1:=by
 simp only [rA]
 rcases h with h|h|h
 .rw [l5 h]
  cases d<;>rfl
 .subst h;rfl
 .rcases y4 p e.length with hp|hp
  .rw [B9 hp]
   cases d with
   |zero=>rfl
   |succ d=>rw [M9,h,if_neg (by simp)]
  .rw [l5 hp]
   cases d<;>rfl
def rC (e:List Y6)(d p:Nat):(rA e d p= -1/\M9 d (e.drop p)=none)\/∃ q:Nat,rA e d p=q/\q<=e.length/\p<=q/\∃ a,M9 d (e.drop p)=some (a,e.drop q):=by
 simp only [rA];cases h:M9 d (e.drop p) with
 |none=>exact Or.inl ⟨rfl,rfl⟩
 |some x =>
  obtain ⟨a,r⟩:=x;right;obtain ⟨h1,_,_⟩:=T1 d _ a r h;have h2:r.length<=e.length - p:=by
   have:=congrArg List.length h1;simp at this;omega
  have h4:p<=e.length:=by
   rcases y4 e.length p with hp|hp
   .rw [l5 (by omega)] at h1
    have:=congrArg List.length h1;have:=iM a;simp at *
    omega
   .exact hp
  refine ⟨e.length - r.length,rfl,by omega,by omega,a,?_⟩;have h3:e.drop (e.length - r.length)=r:=by
   have h5:e=(e.take p++a.flat)++r:=by rw [E8,<- h1,List.take_append_drop]
   conv=>lhs;rw [h5]
   rw [List.drop_append_of_le_length (by simp;omega),l5 (by simp;omega)];rfl
  rw [h3]
def Qx {e:List Y6}{d k p:Nat}:Fc e d (k+1) p=if F0 (rA e d p) 0 then -1 else Fc e d k (rA e d p).toNat:=by
 rcases rC e d p with ⟨h1,h2⟩|⟨q,h1,_,_,a,h2⟩
 .rw [h1,if_pos (by simp [y3])]
  simp only [Fc,eo,h2]
 .rw [h1,if_neg (by simp [y3])]
  simp only [Fc,eo,h2,Int.toNat_natCast];cases eo (M9 d) k (e.drop q) with
  |none=>rfl
  |some x=>rfl
set_option maxHeartbeats 2000000 in
def ae5 (e:List Y6)(he:e.length<=1000):∀ d p:Nat,d<=100->p<=2000->Pf A 229 [aW e,.d (num p),.d (num d)] (.d (num (rA e d p))):=by
 intro d
 induction d with
 |zero =>
  intro p _ hp;refine Pf.run [aW e,.d (num p),.d (num (0:Nat)),.any,.any,.any] rfl rfl rfl rfl ?_;refine gr ?_;refine tB (true) ?_ (fun h1=> ?_) (fun h1=> ?_)
  .repeat' (first|refine cl (UI _) ?_|refine cl (ae6 _) ?_|refine gx ?_|refine fk (h1:=fun hw=> ?_) (h2:=fun hw=> ?_)|refine R8 (h1:=fun hw=> ?_) (h2:=fun hw=> ?_)|refine ⟨rfl,rfl,_,rfl,?_⟩|refine ⟨rfl,rfl⟩|fail)
   all_goals exact cc
  .refine gr ?_
   exact ⟨_,rfl,by rw [CP (Or.inr (Or.inl rfl))];rfl⟩
  .cases h1
 |succ d ih =>
  intro p hd hp;refine Pf.run [aW e,.d (num p),.d (num (d+1:Nat)),.any,.any,.any] rfl rfl rfl rfl ?_;refine gr ?_;refine tB (ah e.length p|| !yu (nth e p)) ?_ (fun h1=> ?_) (fun h1=> ?_)
  .repeat' (first|refine cl (UI _) ?_|refine cl (ae6 _) ?_|refine gx ?_|refine fk (h1:=fun hw=> ?_) (h2:=fun hw=> ?_)|refine R8 (h1:=fun hw=> ?_) (h2:=fun hw=> ?_)|refine ⟨rfl,rfl,_,rfl,?_⟩|refine ⟨rfl,rfl⟩|fail)
   all_goals first|(simp [*,j7,yu];done)|(simp_all [j7,yu];done)|(simp_all [j7,yu,y3,s9,o6,H7];done)|(simp_all [j7,yu,y3,s9,o6,H7]<;>omega)
  .refine gr ?_
   refine ⟨_,rfl,?_⟩;rw [CP]
   .rfl
   .simp only [Bool.or_eq_true,n5] at h1
    rcases h1 with h|h
    .have:=qD h;left;omega
    .exact Or.inr (Or.inr h)
  simp only [F3,C7] at h1;have h2:=Ac h1.1;have h3:=pE (nth e p).op;have h4:0<=nq (nth e p).op:=by
   have:=h1.2;simp only [yu,c7,n5] at this;exact B8 this.1
  repeat' (first|refine cl (UI _) ?_|refine gx ?_|fail)
  refine Ex.M5 (fun k T H=>∃ (i q:Nat) (v:c8),T=[aW e,.d (num q),.d (num (d+1:Nat)),v,.d (num (nq (nth e p).op)),.d (num i)]/\H=[]/\(i:Int)+k=nq (nth e p).op/\q<=e.length/\rA e (d+1) p=Fc e d k q) (by rintro _ _ _ ⟨_,_,_,_,rfl,_⟩;rfl) ?_ (k:=(nq (nth e p).op).toNat) ⟨0,p+1,_,rfl,rfl,by omega,by omega,Qy (by omega) h1.2⟩;rintro k _ _ ⟨i,q,v,rfl,rfl,hk,hq,hi⟩;refine Ex.nT ?_;refine Ex.seq ?_;refine tb (F0 i (nq (nth e p).op)) (fun h5=> ?_) (fun h5=> ?_)
  .have h6:=A9 h5
   obtain ⟨k,rfl⟩:∃ k',k=k' +1:=⟨k - 1,by omega⟩;refine gr ?_;refine cl (ih q (by omega) (by omega)) ?_ (ha:=by rw [show (d:Int)=((d+1:Nat):Int) - 1 by omega];rfl);rw [Qx] at hi
   rcases rC e d q with ⟨e1,_⟩|⟨q',e1,e2,_,_,_⟩
   .rw [e1] at hi ⊢
    have e3:F0 (-1) 0=true:=by simp [y3]
    rw [e3,if_pos rfl] at hi;refine gr ?_;refine tb (true) (fun h7=> ?_) (fun h7=> ?_)
    .refine gr ?_
     exact ⟨_,rfl,by rw [hi];rfl⟩
    .cases h7
   .rw [e1] at hi ⊢
    have e3:F0 (q' :Int) 0=false:=by simp [y3]
    rw [e3,if_neg (by simp)] at hi;refine gr ?_;refine tb (false) (fun h7=> ?_) (fun h7=> ?_)
    .cases h7
    refine gr ?_;exact ⟨k,by omega,i+1,q',_,rfl,rfl,by omega,by omega,hi⟩
  .have h6:=B8 h5
   obtain rfl:k=0:=by omega
   refine gr ?_;refine ⟨_,rfl,?_⟩;have h8:Fc e d 0 q=q:=by simp only [Fc,eo,List.length_drop];omega
   rw [hi,h8];rfl
def Z6 (e:List Y6):Bool:=ah 1 e.length&&ah e.length 64&&s8 (rA e 16 0) e.length
def aH1 (e:List Y6)(he:e.length<=1000):Pf A 170 [aW e] (.d (.bool (Z6 e))):=by
 refine Pf.run [aW e,.any] rfl rfl rfl rfl ?_
 repeat' (first|refine cl (ae5 e he 16 0 (by omega) (by omega)) ?_|refine gx ?_|refine fk (h1:=fun hw=> ?_) (h2:=fun hw=> ?_)|refine R8 (h1:=fun hw=> ?_) (h2:=fun hw=> ?_)|refine Ex.O6 ?_|refine Ex.P0 ?_|refine Ex.cond rfl (fun ht=> ?_) (fun ht=> ?_)|refine Ex.test (Rn.text ?_)|refine Ex.test (Rn.draw ?_)|refine ⟨_,rfl,fun ht=> ?_,fun ht=> ?_⟩|refine ⟨_,rfl,?_⟩|fail)
 all_goals first|(simp [*,j7,Z6];done)|(simp_all [j7,Z6];done)|(simp_all [j7,Z6,y3,s9,o6,H7];done)|(simp_all [j7,Z6,y3,s9,o6,H7]<;>omega)
theorem fJ (e:List Y6):Z6 e=(fK e).isSome:=by
 unfold Z6 fK;cases h:(ah 1 e.length&&ah e.length 64) with
 |false=>rfl
 |true =>
  simp only [if_true,Bool.true_and];simp only [c7] at h;have hl:=qD h.1;simp only [rA,List.drop_zero];cases h1:M9 16 e with
  |none =>
   simp only [Option.isSome_none,o6];simp
  |some x =>
   obtain ⟨a,r⟩:=x;obtain ⟨h2,_,_⟩:=T1 16 e a r h1;have h3:a.flat.length+r.length=e.length:=by rw [h2];simp
   have h4:=iM a;cases r with
   |nil=>simp [o6]
   |cons t r=>simp [o6] at *;omega
def as6 (l:List aH):c8:= .d (z8 (fun x=>[z8 Y6.enc x]) (l.map aH.flat))
def LM {e:List Y6}{p:Nat}{a:aH}{l:List aH}(h:e.drop p=M3 (a::l)):e.drop (p+a.flat.length)=M3 l/\(e.take (p+a.flat.length)).drop p=a.flat:=by
 constructor
 .rw [<- List.drop_drop,h,M3,List.drop_left]
 .rw [List.drop_take,h,Nat.add_sub_cancel_left,M3,List.take_left]
set_option maxHeartbeats 2000000 in
def aH4 (t:Y6)(l:List aH)(he:(t::M3 l).length<=1000)(hw:Xw l)(hd:lS l<=16):Pf A 230 [aW (t::M3 l)] (as6 l):=by
 refine Pf.run [aW (t::M3 l),.any,.any,.any,.any] rfl rfl rfl rfl ?_;refine gr ?_;refine Ex.M5 (fun k T H=>∃ (p:Nat) (l1 l2:List aH) (v w:c8),T=[aW (t::M3 l),v,C4 1 (fun x=>[z8 Y6.enc x]) (l1.map aH.flat),.d (num p),w]/\H=[]/\k=l2.length/\l=l1++l2/\p<=(t::M3 l).length/\(t::M3 l).drop p=M3 l2/\Xw l2/\lS l2<=16) (by rintro _ _ _ ⟨_,_,_,_,_,_,rfl,_⟩;rfl) ?_ (k:=l.length) ⟨1,[],l,_,_,rfl,rfl,rfl,rfl,by simp,rfl,hw,hd⟩;rintro k _ _ ⟨p,l1,l2,v,w,rfl,rfl,hk,hl,hp,hp2,Xs,hd2⟩;have hlen:=uP l;have NH:l1.length<=1000:=by
  have:=congrArg List.length hl;simp at this he;omega
 have HY:(M3 l2).length+p=(t::M3 l).length:=by rw [<- hp2];simp at hp ⊢;omega
 refine Ex.nT ?_;refine Ex.seq ?_;refine tb (F0 p (t::M3 l).length) (fun h1=> ?_) (fun h1=> ?_)
 .have h2:=A9 h1
  cases l2 with
  |nil=>simp [M3] at HY h2;omega
  |cons a l2 =>
  have h3:=LM hp2;have h4:rA (t::M3 l) 16 p=((p+a.flat.length:Nat):Int):=by
   simp only [lS] at hd2;simp only [rA,hp2,M3];rw [Y1 a 16 (M3 l2) Xs.1 (by omega)];simp only [M3,o8] at HY;simp only;omega
  have h5:=ae5 (t::M3 l) he 16 p (by omega) (by omega);rw [h4] at h5;simp only [M3,o8] at HY
  repeat' (first|refine cl (h5) ?_|refine gx ?_|fail)
  refine ⟨l2.length,by simp at hk;omega,p+a.flat.length,l1++[a],l2,.any,.d (num (p+a.flat.length:Nat)),by rw [h3.2];simp [C4],rfl,rfl,by simp [hl],by omega,h3.1,Xs.2,by simp only [lS] at hd2;omega⟩
 .have h2:=B8 h1
  cases l2 with
  |cons a l2 =>
   have:=iM a;simp only [M3,o8] at HY;omega
  |nil =>
  refine gr ?_;refine ⟨_,rfl,?_⟩;simp at hl;subst hl;rfl
def IK (op:Int)(k:Nat):Prop:=(op=3\/op=9\/op=13\/op=16)/\k=1\/op=18/\k=3\/4<=op/\op<=17/\op≠9/\op≠13/\op≠16/\k=2
def UB {t:Y6}{k:Nat}(h:yu t=true)(hk:(nq t.op).toNat=k)(h1:s8 t.op 1=false)(h2:s8 t.op 2=false):IK t.op k:=by
 simp only [yu,c7,n5] at h;have h3:=B8 h.1;simp only [nq,h1,h2,Bool.or_self,j3,if_false,Bool.or_eq_true,c7] at h3 hk;unfold IK;split at h3
 .rename_i h4
  rw [if_pos h4] at hk;simp [o6] at h4 hk;left;omega
 .rename_i h4
  rw [if_neg h4] at hk;simp [o6] at h4 h1 h2;split at h3
  .rename_i h5
   rw [if_pos h5] at hk;simp [o6] at h5 hk;right;left;omega
  .rename_i h5
   rw [if_neg h5] at hk;simp [o6] at h5;split at h3
   .rename_i h6
    rw [if_pos h6] at hk;simp [s9] at h6 hk;right;right;omega
   .omega
set_option maxHeartbeats 16000000 in
def aH5 (op:Int)(t:List Int)(h:IK op t.length):Pf A 231 [.d (num op),.d (ints t)] (.d (num (gM op t))):=by
 unfold IK at h;refine Pf.run [.d (num op),.d (ints t),.any,.any,.any,.any,.any,.any,.any] rfl rfl rfl rfl ?_
 repeat' (first|refine gx ?_|refine fk (h1:=fun hw=> ?_) (h2:=fun hw=> ?_)|refine R8 (h1:=fun hw=> ?_) (h2:=fun hw=> ?_)|refine Ex.O6 ?_|refine Ex.P0 ?_|refine Ex.cond rfl (fun ht=> ?_) (fun ht=> ?_)|refine Ex.test (Rn.text ?_)|refine Ex.test (Rn.draw ?_)|refine ⟨_,rfl,fun ht=> ?_,fun ht=> ?_⟩|refine ⟨_,rfl,?_⟩|fail)
 all_goals first|(simp [*,j7,gM,num];done)|(simp_all [j7,gM,num];done)|(simp_all [j7,gM,num,y3,s9,o6,H7];done)|(simp_all [j7,gM,num,y3,s9,o6,H7]<;>omega)
def YJ {α:Type} [Inhabited α] (l1:List α)(a:α)(l2:List α):nth (l1++a::l2) l1.length=a:=by
 rw [I9 (by simp)];simp
theorem zR {a:aH}:∀ {l:List aH},a ∈ l->a.flat.length<=(M3 l).length
 |b::l,h=>by
  simp only [M3,o8]
  rcases B4.1 h with rfl|h
  .omega
  .have:=zR h;omega
theorem Nc {a:aH}:∀ {l:List aH},Xw l->a ∈ l->a.wf
 |b::l,hw,h=>by
  rcases B4.1 h with rfl|h
  .exact hw.1
  .exact Nc hw.2 h
theorem Nw {a:aH}:∀ {l:List aH},a ∈ l->a.dep<=lS l
 |b::l,h=>by
  simp only [lS]
  rcases B4.1 h with rfl|h
  .omega
  .have:=Nw h;omega
set_option maxHeartbeats 4000000 in
def aH2 (ty:List Int):∀ (n:Nat) (a:aH),a.flat.length<=n->n<=1000->a.wf->a.dep<=16->Pf A 171 [aW a.flat,.d (ints ty)] (.tuple [.d (num (a.typ ty).1),.d (num (a.typ ty).2)]):=by
 intro n
 induction n with
 |zero=>intro a h;have:=iM a;omega
 |succ n ih =>
 rintro ⟨t,l⟩ hn hn2 hw hd;simp only [aH.flat] at hn ⊢;simp only [aH.dep] at hd;have hle:(t::M3 l).length<=1000:=by omega
 have hpos:0<(t::M3 l).length:=by simp
 have h0:nth (t::M3 l) 0=t:=V0 _ _;obtain ⟨hok,har,Ia⟩:=hw;have hll:=uP l;have hl3:l.length<=3:=by have:=pE t.op;omega
 refine Pf.run [aW (t::M3 l),.d (ints ty),.any,.any,.any,.any,.any,.any,.any,.any,.any] rfl rfl rfl rfl ?_;refine gr ?_;rw [h0];have be5:s8 t.op 2=true->s8 t.op 1=false->0<=t.col:=fun h h' =>by
  simp only [yu,cS,h,h',if_true,j3,if_false,c7] at hok;exact qD hok.2.2
 have hl0:(s8 t.op 1||s8 t.op 2)=true->l=[]:=fun h=>by
  have:nq t.op=0:=by unfold nq;rw [h,if_pos rfl]
  rw [this] at har;cases l with
  |nil=>rfl
  |cons a l=>simp at har
 refine tb (s8 t.op 1) (fun h1=> ?_) (fun h1=> ?_)
 .refine gr ?_
  refine ⟨_,rfl,?_⟩;rw [hl0 (by simp [h1])];simp [j7,aH.typ,gv,Bq,h1,o6,num,c8.J2,V0]
 refine gr ?_;refine tb (s8 t.op 2) (fun h2=> ?_) (fun h2=> ?_)
 .have hc:=be5 h2 h1
  have hll:=hl0 (by simp [h2]);refine gr ?_;refine tB (ah ty.length t.col) ?_ (fun h3=> ?_) (fun h3=> ?_)
  .repeat' (first|refine gx ?_|refine fk (h1:=fun hw=> ?_) (h2:=fun hw=> ?_)|refine R8 (h1:=fun hw=> ?_) (h2:=fun hw=> ?_)|refine ⟨rfl,rfl,_,rfl,?_⟩|refine ⟨rfl,rfl⟩|fail)
   all_goals first|(simp [*,j7,V0];done)|(simp_all [j7,V0];done)|(simp_all [j7,V0,y3,s9,o6,H7];done)|(simp_all [j7,V0,y3,s9,o6,H7]<;>omega)
  .refine gr ?_
   refine ⟨_,rfl,?_⟩;rw [hll];simp [j7,aH.typ,gv,Bq,h1,h2,h3,o6,num,c8.J2]
  .have h4:=Ac h3
   refine gr ?_;rw [h0];refine gr ?_;refine ⟨_,rfl,?_⟩;rw [hll];simp [j7,aH.typ,gv,Bq,h1,h2,h3,o6,num,c8.J2]
 have hfit:=UB hok har h1 h2
 repeat' (first|refine cl (aH4 t l hle Ia (by omega)) ?_|refine gx ?_|fail)
 refine Ex.M5 (fun k T H=>∃ (i:Nat) (l1 l2:List aH) (ts:List Int) (v2 v3 v7 v8 v9 v10:c8),T=[aW (t::M3 l),.d (ints ty),v2,v3,C4 1 (fun n=>[num n]) ts,as6 l,.d (num i),v7,v8,v9,v10]/\H=[]/\i=l1.length/\k=l2.length/\l=l1++l2/\ts.length=l1.length/\(gv ty l).1=ts++(gv ty l2).1/\(gv ty l).2=(gv ty l2).2) (by rintro _ _ _ ⟨_,_,_,_,_,_,_,_,_,_,_,rfl,_⟩;rfl) ?_ (k:=l.length) ⟨0,[],l,[],_,_,_,_,_,_,rfl,rfl,rfl,rfl,rfl,rfl,rfl,rfl⟩;rintro k _ _ ⟨i,l1,l2,ts,v2,v3,v7,v8,v9,v10,rfl,rfl,wJ,hk,hl,hts,e1,e2⟩;have hlen:l.length=l1.length+l2.length:=by rw [hl];simp
 refine Ex.nT ?_;refine Ex.seq ?_;unfold as6;refine tb (F0 i l.length) (fun h3=> ?_) (fun h3=> ?_)
 .have h4:=A9 h3
  cases l2 with
  |nil=>simp at hlen;omega
  |cons a l2 =>
  have hm:nth (l.map aH.flat) i=a.flat:=by
   have:=YJ (l1.map aH.flat) a.flat (l2.map aH.flat);rw [hl,wJ];simpa using this
  have ha:a ∈ l:=by rw [hl];simp
  have hp:=ih a (by have:=zR ha;simp at hn;omega) (by omega) (Nc Ia ha) (by have:=Nw ha;omega);have hlm:i<(l.map aH.flat).length:=by simp;omega
  refine gr ?_;rw [hm];simp only [gv] at e1 e2
  repeat' (first|refine cl (hp) ?_|refine gx ?_|fail)
  refine tb (!s8 (a.typ ty).2 0) (fun h5=> ?_) (fun h5=> ?_)
  .simp only [n5] at h5
   simp only [h5,j3,if_false] at e1 e2;refine gr ?_;refine ⟨_,rfl,?_⟩;simp [j7,aH.typ,e2,h5,c8.J2,num]
  .simp only [C7] at h5
   simp only [h5,if_true] at e1 e2;refine gr ?_;exact ⟨l2.length,by simp at hk;omega,i+1,l1++[a],l2,ts++[(a.typ ty).1],_,_,_,_,_,_,rfl,rfl,by simp [wJ],rfl,by simp [hl],by simp [hts],by simp [e1],e2⟩
 .have h4:=B8 h3
  cases l2 with
  |cons a l2=>simp at hlen;omega
  |nil =>
  simp only [gv,List.append_nil] at e1 e2;refine gr ?_;rw [h0];have aB6:IK t.op ts.length:=by rw [hts];simpa [hl] using hfit
  repeat' (first|refine cl (aH5 t.op ts aB6) ?_|refine gx ?_|fail)
  refine tb (s8 (gM t.op ts) 0) (fun h5=> ?_) (fun h5=> ?_)
  .refine gr ?_
   refine ⟨_,rfl,?_⟩;simp [j7,aH.typ,e1,e2,h1,h2,h5,Bq,c8.J2,num,o6]
  .refine gr ?_
   refine ⟨_,rfl,?_⟩;simp [j7,aH.typ,e1,e2,h1,h2,h5,Bq,c8.J2,num,o6]
def pair (p:Int×Int):c8:= .tuple [.d (num p.1),.d (num p.2)]
set_option maxHeartbeats 2000000 in
def Oc (e:List Y6)(ty:List Int)(he:e.length<=1000)(ht:ty.length<=100000):Pf A 114 [aW e,.d (ints ty)] (pair (G7 e ty)):=by
 refine Pf.run [aW e,.d (ints ty),.any,.any,.any] rfl rfl rfl rfl ?_;refine gr ?_;refine tB (!Z6 e) ?_ (fun h1=> ?_) (fun h1=> ?_)
 .repeat' (first|refine cl (aH1 e he) ?_|refine gx ?_|refine fk (h1:=fun hw=> ?_) (h2:=fun hw=> ?_)|refine R8 (h1:=fun hw=> ?_) (h2:=fun hw=> ?_)|refine ⟨rfl,rfl,_,rfl,?_⟩|refine ⟨rfl,rfl⟩|fail)
  all_goals exact cc
 .refine gr ?_
  refine ⟨_,rfl,?_⟩;rw [fJ] at h1;cases h2:fK e with
  |none=>simp [G7,h2,j7,pair,num,c8.J2]
  |some a=>simp [h2] at h1
 rw [fJ] at h1;cases h2:fK e with
 |none=>simp [h2] at h1
 |some a =>
 have h3:e=a.flat/\a.wf/\a.dep<=16:=by
  unfold fK at h2;split at h2
  .split at h2
   .rename_i b h4
    obtain ⟨e1,e2,e3⟩:=T1 16 e b [] h4;cases h2;exact ⟨by simpa using e1,e2,e3⟩
   .cases h2
  .cases h2
 refine gr ?_;refine Ex.M5 (fun k T H=>∃ (i:Nat) (v w:c8),T=[aW e,.d (ints ty),v,w,.d (num i)]/\H=[]/\i+k=ty.length/\bG ty=bG (ty.drop i)) (by rintro _ _ _ ⟨_,_,_,_,rfl,_⟩;rfl) ?_ (k:=ty.length) ⟨0,_,_,rfl,rfl,by simp,by simp⟩;rintro k _ _ ⟨i,v,w,rfl,rfl,hk,hi⟩;refine Ex.nT ?_;refine Ex.seq ?_;refine tb (F0 i ty.length) (fun h4=> ?_) (fun h4=> ?_)
 .have h5:=A9 h4
  rw [B9 (by omega)] at hi;refine gr ?_;refine tb (!s8 (nth ty i) 1&& !s8 (nth ty i) 2) (fun h6=> ?_) (fun h6=> ?_)
  .refine gr ?_
   refine ⟨_,rfl,?_⟩;have h7:bG ty=false:=by
    rw [hi];simp only [c7,n5] at h6;simp [bG,h6]
   simp [G7,h2,h7,j7,pair,num,c8.J2]
  .refine gr ?_
   refine ⟨k - 1,by omega,i+1,_,_,rfl,rfl,by omega,?_⟩;rw [hi];simp only [bG,List.all_cons];cases h7:s8 (nth ty i) 1<;>cases h8:s8 (nth ty i) 2<;>simp_all
 .have h5:=B8 h4
  rw [l5 (by omega)] at hi;have h6:=aH2 ty e.length a (by rw [h3.1];omega) he h3.2.1 h3.2.2;rw [<- h3.1] at h6
  repeat' (first|refine cl (h6) ?_|refine gx ?_|fail)
  refine ⟨_,rfl,?_⟩;have hg:bG ty=true:=by rw [hi];rfl
  simp [G7,h2,hg,j7,pair,c8.J2]
def encS (s:L3):List x9.Data:=[.str s]
set_option maxHeartbeats 4000000 in
def aI8 (c:y5)(hf:c.qy):Pf A 142 [cat c] (.d (z8 encS c.names)):=by
 obtain ⟨f0,f1,f2,f3,f4,f5,f6,f7⟩:=hf;refine Pf.run [cat c,.any,.any,.any,.any,.any,.any,.any,.any,.any,.any,.any] rfl rfl rfl rfl ?_;refine gr ?_;refine Ex.M5 (fun k T H=>∃ (i:Nat) (acc:List L3) (v0 v2 w5 w6 w7 w8 w9 mR kW:c8),T=[v0,.ptr 0 0,v2,C4 1 encS acc,.d (num i),w5,w6,w7,w8,w9,mR,kW]/\H=[.cells (c.enc.map .d)]/\i+k=c.k9.length/\acc=([]:List L3)++(c.k9.take i).map mO.name) (by rintro _ _ _ ⟨_,_,_,_,_,_,_,_,_,_,_,_,rfl,_⟩;rfl) ?_ (k:=c.k9.length) ⟨0,([]:List L3),_,_,_,_,_,_,_,_,_,rfl,rfl,by simp,by simp⟩;rintro k _ _ ⟨i,acc,v0,v2,w5,w6,w7,w8,w9,mR,kW,rfl,rfl,hk,hacc⟩;have hl:acc.length=0+i:=by rw [hacc];simp;omega
 refine Ex.nT ?_
 repeat' (first|refine gx ?_|refine Ex.O6 ?_|refine Ex.P0 ?_|refine Ex.cond rfl (fun ht=> ?_) (fun ht=> ?_)|refine Ex.test (Rn.text ?_)|refine Ex.test (Rn.draw ?_)|refine ⟨_,rfl,fun ht=> ?_,fun ht=> ?_⟩|refine ⟨_,rfl,?_⟩|fail)
 .have h1:=A9 ht
  refine ⟨k - 1,by omega,i+1,acc++[(nth c.k9 i).name],_,_,_,_,_,_,_,_,_,rfl,rfl,by omega,?_⟩;rw [J3 (by omega),hacc];simp
 have h1:=B8 ht;rw [B5 (by omega)] at hacc;clear ht h1 hk hl;subst hacc;refine Ex.M5 (fun k T H=>∃ (i:Nat) (acc:List L3) (v0 v2 w4 w6 w7 w8 w9 mR kW:c8),T=[v0,.ptr 0 0,v2,C4 1 encS acc,w4,.d (num i),w6,w7,w8,w9,mR,kW]/\H=[.cells (c.enc.map .d)]/\i+k=c.views.length/\acc=c.k9.map mO.name++(c.views.take i).map Vw.name) (by rintro _ _ _ ⟨_,_,_,_,_,_,_,_,_,_,_,_,rfl,_⟩;rfl) ?_ (k:=c.views.length) ⟨0,c.k9.map mO.name,_,_,_,_,_,_,_,_,_,rfl,rfl,by simp,by simp⟩;rintro k _ _ ⟨i,acc,v0,v2,w4,w6,w7,w8,w9,mR,kW,rfl,rfl,hk,hacc⟩;have hl:acc.length=0+c.k9.length+i:=by rw [hacc];simp;omega
 refine Ex.nT ?_
 repeat' (first|refine gx ?_|refine Ex.O6 ?_|refine Ex.P0 ?_|refine Ex.cond rfl (fun ht=> ?_) (fun ht=> ?_)|refine Ex.test (Rn.text ?_)|refine Ex.test (Rn.draw ?_)|refine ⟨_,rfl,fun ht=> ?_,fun ht=> ?_⟩|refine ⟨_,rfl,?_⟩|fail)
 .have h1:=A9 ht
  refine ⟨k - 1,by omega,i+1,acc++[(nth c.views i).name],_,_,_,_,_,_,_,_,_,rfl,rfl,by omega,?_⟩;rw [J3 (by omega),hacc];simp
 have h1:=B8 ht;rw [B5 (by omega)] at hacc;clear ht h1 hk hl;subst hacc
 iterate 6
  refine Ex.M5 (fun k T H=>T=_/\H=_) (by rintro _ _ _ ⟨_,rfl⟩;rfl) ?_ (k:=0) ⟨rfl,rfl⟩;rintro k _ _ ⟨rfl,rfl⟩;refine Ex.nT ?_
  repeat' (first|refine gx ?_|refine Ex.O6 ?_|refine Ex.P0 ?_|refine Ex.cond rfl (fun ht=> ?_) (fun ht=> ?_)|refine Ex.test (Rn.text ?_)|refine Ex.test (Rn.draw ?_)|refine ⟨_,rfl,fun ht=> ?_,fun ht=> ?_⟩|refine ⟨_,rfl,?_⟩|fail)
  .have:=A9 ht
   omega
  clear ht
 simp_all [j7,z8,C4,y5.names]
def y5.sn (c:y5):List L3:=c.k9.map mO.name++c.views.map Vw.name
def y5.ns (c:y5):Nat:=c.k9.length+c.views.length
def J6 (name:L3):List L3->Nat->Int
 |[],_=> -1
 |x::r,i=>if M0 x name then i else J6 name r (i+1)
def J1 (c:y5)(name:L3)(n:Nat):Int:=J6 name ((y5.sn c).take n) 0
theorem jX (c:y5):(y5.sn c).length=y5.ns c:=by simp [y5.sn,y5.ns]
def As (c:y5){i:Nat}(h:i<y5.ns c):nth c.names i=nth (y5.sn c) i:=by
 have h1:c.names=y5.sn c++(c.idxs.map Qd.name++c.qn.map Qi.name++c.qh.map Qb.name++c.qm.map Qh.name++c.qo.map Qj.name++c.qg.map PZ.name):=by simp [y5.names,y5.sn]
 have h2:i<(y5.sn c).length:=by grind [jX]
 grind [I9,List.getElem_append_left]
def bg (c:y5):y5.ns c<=c.names.length:=by simp [y5.names,y5.ns]
def Mu (c:y5)(name:L3)(n:Nat)(hf:c.qy)(hn:n<=100000):Pf A 112 [cat c,.d (.str name),.d (num n)] (.d (num (J1 c name n))):=by
 have hl:=bg c;have hc:y5.ns c<=2000:=by obtain ⟨f0,f1,_⟩:=hf;grind [y5.ns]
 have hs:=jX c;have sU :c.k9.length+c.views.length<=2000:=hc;refine Pf.run [cat c,.d (.str name),.d (num n),.any,.any,.any,.any] rfl rfl rfl rfl ?_
 repeat' (first|refine cl (aI8 c hf) ?_|refine gx ?_|fail)
 refine Ex.M5 (fun k T H=>∃ (i:Nat) (v w:c8),T=[v,.d (.str name),.d (num n),.ptr 0 0,w,.d (z8 encS c.names),.d (num i)]/\H=[.cells (c.enc.map .d)]/\i+k=y5.ns c/\i<=n/\J1 c name n=J6 name (((y5.sn c).take n).drop i) i) (by simp_all) ?_ (k:=y5.ns c) ⟨0,_,_,rfl,rfl,by simp,by omega,by simp [J1]⟩;rintro k _ _ ⟨i,v,w,rfl,rfl,hk,hin,hi⟩;refine Ex.nT ?_;refine Ex.seq ?_;refine tB (F0 i n&&F0 i (y5.ns c)) ?_ (fun h1=> ?_) (fun h1=> ?_)
 .repeat' (first|refine gx ?_|refine fk (h1:=fun hw=> ?_) (h2:=fun hw=> ?_)|refine R8 (h1:=fun hw=> ?_) (h2:=fun hw=> ?_)|refine ⟨rfl,rfl,_,rfl,?_⟩|refine ⟨rfl,rfl⟩|fail)
  all_goals grind [j7,y5.ns,y3,s9,o6,H7]
 .simp [c7] at h1
  have h2:=A9 h1.1;have h3:=A9 h1.2;have h4:((y5.sn c).take n).drop i=nth (y5.sn c) i::((y5.sn c).take n).drop (i+1):=by
   grind [B9,I9]
  rw [h4,<- As c (by omega)] at hi
  repeat' (first|refine gx ?_|refine Ex.O6 ?_|refine Ex.P0 ?_|refine Ex.cond rfl (fun ht=> ?_) (fun ht=> ?_)|refine Ex.test (Rn.text ?_)|refine Ex.test (Rn.draw ?_)|refine ⟨_,rfl,fun ht=> ?_,fun ht=> ?_⟩|refine ⟨_,rfl,?_⟩|fail)
  .grind [J6,j7,num]
  .exact ⟨k - 1,by omega,i+1,_,_,rfl,rfl,by omega,by omega,by grind [J6]⟩
 .repeat' (first|refine gx ?_|refine Ex.O6 ?_|refine Ex.P0 ?_|refine Ex.cond rfl (fun ht=> ?_) (fun ht=> ?_)|refine Ex.test (Rn.text ?_)|refine Ex.test (Rn.draw ?_)|refine ⟨_,rfl,fun ht=> ?_,fun ht=> ?_⟩|refine ⟨_,rfl,?_⟩|fail)
  grind [y5.sn,l5,y3,J6,j7,num]
def iZ (c:y5)(name:L3)(n:Nat):Int:=J1 c name (min n c.k9.length)
def aG6 (c:y5)(name:L3)(n:Nat)(hf:c.qy)(hn:n<=100000):Pf A 207 [cat c,.d (.str name),.d (num n)] (.d (num (iZ c name n))):=by
 refine Pf.run [cat c,.d (.str name),.d (num n),.any,.any] rfl rfl rfl rfl ?_;refine gr ?_;have e:(if (c.k9.length:Int)<(n:Int) then (c.k9.length:Int) else (n:Int))=((min n c.k9.length:Nat):Int):=by split<;>omega
 refine cl (Mu c name (min n c.k9.length) hf (by omega)) ?_ (ha:=by rw [num,<- e];rfl);refine gr ?_;exact ⟨_,rfl,rfl⟩
def Y5 (t:mO):Int->List Int->Bool
 |_,[]=>true
 |p,o::r=>F0 p o&&F0 o t.p8.length&& !(M0 (nth t.p8 o.toNat).space []&&M0 (nth t.p8 o.toNat).refs [])&&Y5 t o r
def jG (t:mO):c8:= .agg (t.enc.map .d)
def aH0 (t:mO)(xs:List Int)(hx:xs.length<=1000)(hc:t.p8.length<=1000):Pf A 245 [jG t,.d (ints xs)] (.d (.bool (Y5 t (-1) xs))):=by
 refine Pf.run [jG t,.d (ints xs),.any,.any,.any] rfl rfl rfl rfl ?_;refine gr ?_;refine Ex.M5 (fun k T H=>∃ (i:Nat) (v w:c8) (p:Int),T=[v,.d (ints xs),.ptr 0 0,w,.d (num i)]/\H=[.cells (t.enc.map .d)]/\i+k=xs.length/\p=(if i=0 then -1 else nth xs (i - 1))/\ -1<=p/\Y5 t (-1) xs=Y5 t p (xs.drop i)) (by rintro _ _ _ ⟨_,_,_,_,_,rfl,_⟩;rfl) ?_ (k:=xs.length) ⟨0,_,_, -1,rfl,rfl,by simp,by simp,by omega,by simp⟩;rintro k _ _ ⟨i,v,w,p,rfl,rfl,hk,hp,hp1,hi⟩;refine Ex.nT ?_;refine Ex.seq ?_;refine tb (F0 i xs.length) (fun h1=> ?_) (fun h1=> ?_)
 .have h2:=A9 h1
  rw [B9 (by omega)] at hi;have hq:(((i:Int) - 1).toNat)=i - 1:=by omega
  refine gr ?_;refine tB (!(y7 (nth xs i) 0 (t.p8.length - 1))||(F0 0 i&&ah (nth xs i) (nth xs (i - 1)))||(M0 (nth t.p8 (nth xs i).toNat).space []&&M0 (nth t.p8 (nth xs i).toNat).refs [])) ?_ (fun h3=> ?_) (fun h3=> ?_)
  .repeat' (first|refine cl (IW _ _ _) ?_|refine gx ?_|refine fk (h1:=fun hw=> ?_) (h2:=fun hw=> ?_)|refine R8 (h1:=fun hw=> ?_) (h2:=fun hw=> ?_)|refine ⟨rfl,rfl,_,rfl,?_⟩|refine ⟨rfl,rfl⟩|fail)
   all_goals first|(simp [*,j7,hq];done)|(simp_all [j7,hq];done)|(simp_all [j7,hq,y3,s9,o6,H7];done)|(simp_all [j7,hq,y3,s9,o6,H7]<;>omega)
  .refine gr ?_
   refine ⟨_,rfl,?_⟩;have h5:(F0 p (nth xs i)&&F0 (nth xs i) t.p8.length&& !(M0 (nth t.p8 (nth xs i).toNat).space []&&M0 (nth t.p8 (nth xs i).toNat).refs []))=false:=by
    rcases hS:(M0 (nth t.p8 (nth xs i).toNat).space []&&M0 (nth t.p8 (nth xs i).toNat).refs []) with _|_
    .simp [hS,y7,y3,s9] at h3 ⊢
     by_cases h0:i=0
     .simp [h0] at hp h3 ⊢;omega
     .simp [h0] at hp;omega
    .simp
   rw [hi,Y5,h5];simp [j7]
  .refine gr ?_
   have h5:F0 p (nth xs i)=true/\F0 (nth xs i) t.p8.length=true/\(M0 (nth t.p8 (nth xs i).toNat).space []&&M0 (nth t.p8 (nth xs i).toNat).refs [])=false:=by
    simp only [F3] at h3;refine ⟨?_,?_,h3.2⟩
    .simp [y7,y3,s9] at h3 ⊢
     by_cases h0:i=0
     .simp [h0] at hp h3 ⊢;omega
     .simp [h0] at hp;omega
    .simp [y7,y3,s9] at h3 ⊢
     omega
   refine ⟨k - 1,by omega,i+1,_,_,nth xs i,rfl,rfl,by omega,by simp,?_,?_⟩
   .have:=A9 h5.1;omega
   .rw [hi,Y5,h5.1,h5.2.1,h5.2.2]
    simp
 .refine gr ?_
  have h2:=B8 h1;rw [l5 (by omega)] at hi;exact ⟨_,rfl,by simp [hi,Y5,j7]⟩
def cr (c:y5)(n i:Nat):Int :=
 if !H6 (nth (nth c.k9 n).p8 i).name||(!M0 (nth (nth c.k9 n).p8 i).space []&& !H6 (nth (nth c.k9 n).p8 i).space) then 3
 else if ((nth c.k9 n).p8.take i).any fun y=>M0 y.name (nth (nth c.k9 n).p8 i).name then 4
 else if !M0 (nth (nth c.k9 n).p8 i).refs []&&F0 (iZ c (nth (nth c.k9 n).p8 i).refs n) 0 then 7
 else if (!s8 (nth (nth c.k9 n).p8 i).type 1&& !s8 (nth (nth c.k9 n).p8 i).type 2)||(ah 0 (iZ c (nth (nth c.k9 n).p8 i).refs n)&& !M0 (nth (nth c.k9 n).p8 i).refs []&& !s8 (nth (nth c.k9 (iZ c (nth (nth c.k9 n).p8 i).refs n).toNat).p8 0).type (nth (nth c.k9 n).p8 i).type) then 5
 else if (!M0 (nth (nth c.k9 n).p8 i).space []&& !M0 (nth (nth c.k9 n).p8 i).refs [])|| !Y5 (nth c.k9 n) (-1) (nth (nth c.k9 n).p8 i).F8|| !y7 (nth (nth c.k9 n).p8 i).eX 0 1||(s8 (nth (nth c.k9 n).p8 i).F8.length 0&&(!s8 (nth (nth c.k9 n).p8 i).eX 0|| !s8 (nth (nth c.k9 n).p8 i).jk 0)) then 1
 else if !y7 (nth (nth c.k9 n).p8 i).jk 0 1048576||(!s8 (nth c.k9 n).aA 0&&F0 (nth c.k9 n).aA (nth (nth c.k9 n).p8 i).jk)||(s8 i 0&&F0 0 (nth (nth c.k9 n).p8 i).F8.length&& !s8 (nth c.k9 n).erase 1) then 1
 else if (!M0 (nth (nth c.k9 n).p8 i).refs []&&F0 0 (nth (nth c.k9 (iZ c (nth (nth c.k9 n).p8 i).refs n).toNat).p8 0).F8.length)&& !hasB (nth (nth c.k9 n).p8 i).F8 i then 1
 else 0
theorem fB (name:L3):∀ (l:List L3) (i:Nat),J6 name l i= -1\/((i:Int)<=J6 name l i/\J6 name l i<i+l.length)
 |[],i=>Or.inl rfl
 |x::r,i=>by
  simp only [J6];split
  .simp;omega
  .rcases fB name r (i+1) with h|h
   .exact Or.inl h
   .simp;omega
def MX (c:y5)(name:L3)(n:Nat):iZ c name n= -1\/(0<=iZ c name n/\iZ c name n<n/\iZ c name n<c.k9.length):=by
 unfold iZ J1
 rcases fB name ((y5.sn c).take (min n c.k9.length)) 0 with h|h
 .exact Or.inl h
 .simp at h
  omega
set_option maxHeartbeats 8000000 in
def bm8 (c:y5)(n i:Nat)(hf:c.qy)(hn:n<c.k9.length)(hi:i<(nth c.k9 n).p8.length)(hl:(nth c.k9 n).p8.length<=1000)(ho:(nth (nth c.k9 n).p8 i).F8.length<=1000)(hp:∀ m,m<n->0<(nth c.k9 m).p8.length):Pf A 199 [cat c,.d (num n),.d (num i)] (.d (num (cr c n i))):=by
 have hn2:n<=1000:=by obtain ⟨f0,_⟩:=hf;omega
 have hb:iZ c (nth (nth c.k9 n).p8 i).refs n= -1\/(0<=iZ c (nth (nth c.k9 n).p8 i).refs n/\iZ c (nth (nth c.k9 n).p8 i).refs n<n/\iZ c (nth (nth c.k9 n).p8 i).refs n<c.k9.length/\0<(nth c.k9 (iZ c (nth (nth c.k9 n).p8 i).refs n).toNat).p8.length):=by
  rcases MX c (nth (nth c.k9 n).p8 i).refs n with h|h
  .exact Or.inl h
  .exact Or.inr ⟨h.1,h.2.1,h.2.2,hp _ (by omega)⟩
 refine Pf.run [cat c,.d (num n),.d (num i),.any,.any,.any,.any,.any,.any] rfl rfl rfl rfl ?_;refine gr ?_;refine tB (!H6 (nth (nth c.k9 n).p8 i).name||(!M0 (nth (nth c.k9 n).p8 i).space []&& !H6 (nth (nth c.k9 n).p8 i).space)) ?_ (fun h1=> ?_) (fun h1=> ?_)
 .repeat' (first|refine cl (ap3 _) ?_|refine gx ?_|refine fk (h1:=fun hw=> ?_) (h2:=fun hw=> ?_)|refine R8 (h1:=fun hw=> ?_) (h2:=fun hw=> ?_)|refine ⟨rfl,rfl,_,rfl,?_⟩|refine ⟨rfl,rfl⟩|fail)
  all_goals exact cc
 .refine gr ?_
  exact ⟨_,rfl,by simp only [j7,num,cr,h1,j3,if_true,if_false]⟩
 refine gr ?_;refine Ex.M5 (fun k T H=>∃ (j:Nat) (v w z:c8),T=[v,.d (num n),.d (num i),.ptr 0 0,w,.ptr 1 0,.ptr 2 0,.d (num j),z]/\H=[.cells (c.enc.map .d),.cells ((nth c.k9 n).enc.map .d),.cells ((nth (nth c.k9 n).p8 i).enc.map .d)]/\j+k=i/\(((nth c.k9 n).p8.take i).any fun y=>M0 y.name (nth (nth c.k9 n).p8 i).name)=((((nth c.k9 n).p8.take i).drop j).any fun y=>M0 y.name (nth (nth c.k9 n).p8 i).name)) (by rintro _ _ _ ⟨_,_,_,_,_,rfl,_⟩;rfl) ?_ (k:=i) ⟨0,_,_,_,rfl,rfl,by simp,by simp⟩;rintro k _ _ ⟨j,v,w,z,rfl,rfl,hk,hj⟩;refine Ex.nT ?_;refine Ex.seq ?_;refine tb (F0 j i) (fun h8=> ?_) (fun h8=> ?_)
 .have h9:=A9 h8
  rw [qK (by omega) (by omega)] at hj
  repeat' (first|refine gx ?_|refine Ex.O6 ?_|refine Ex.P0 ?_|refine Ex.cond rfl (fun ht=> ?_) (fun ht=> ?_)|refine Ex.test (Rn.text ?_)|refine Ex.test (Rn.draw ?_)|refine ⟨_,rfl,fun ht=> ?_,fun ht=> ?_⟩|refine ⟨_,rfl,?_⟩|fail)
  .have h2:(((nth c.k9 n).p8.take i).any fun y=>M0 y.name (nth (nth c.k9 n).p8 i).name)=true:=by rw [hj];simp [ht]
   simp only [j7,num,cr,h1,h2,j3,if_true,if_false]
  .exact ⟨k - 1,by omega,j+1,_,_,_,rfl,rfl,by omega,by rw [hj];simp [ht]⟩
 have h9:=B8 h8;rw [l5 (by simp;omega)] at hj;have h2:(((nth c.k9 n).p8.take i).any fun y=>M0 y.name (nth (nth c.k9 n).p8 i).name)=false:=by rw [hj];rfl
 clear hj h8 hk
 repeat' (first|refine cl (aG6 c (nth (nth c.k9 n).p8 i).refs n hf (by omega)) ?_|refine gx ?_|fail)
 refine tb (!M0 (nth (nth c.k9 n).p8 i).refs []&&F0 (iZ c (nth (nth c.k9 n).p8 i).refs n) 0) (fun h3=> ?_) (fun h3=> ?_)
 .refine gr ?_
  exact ⟨_,rfl,by simp only [j7,num,cr,h1,h2,h3,j3,if_true,if_false]⟩
 have h3' :(!M0 (nth (nth c.k9 n).p8 i).refs [])=true->0<=iZ c (nth (nth c.k9 n).p8 i).refs n:=fun h=>by
  simp only [h,Bool.true_and] at h3;exact B8 h3
 have h3q:(!M0 (nth (nth c.k9 n).p8 i).refs [])=true->0<(nth c.k9 (iZ c (nth (nth c.k9 n).p8 i).refs n).toNat).p8.length:=fun h=>by have:=h3' h;omega
 refine tb ((!s8 (nth (nth c.k9 n).p8 i).type 1&& !s8 (nth (nth c.k9 n).p8 i).type 2)||(ah 0 (iZ c (nth (nth c.k9 n).p8 i).refs n)&& !M0 (nth (nth c.k9 n).p8 i).refs []&& !s8 (nth (nth c.k9 (iZ c (nth (nth c.k9 n).p8 i).refs n).toNat).p8 0).type (nth (nth c.k9 n).p8 i).type)) (fun h4=> ?_) (fun h4=> ?_)
 .refine gr ?_
  exact ⟨_,rfl,by simp only [j7,num,cr,h1,h2,h3,h4,j3,if_true,if_false]⟩
 refine tB ((!M0 (nth (nth c.k9 n).p8 i).space []&& !M0 (nth (nth c.k9 n).p8 i).refs [])|| !Y5 (nth c.k9 n) (-1) (nth (nth c.k9 n).p8 i).F8|| !y7 (nth (nth c.k9 n).p8 i).eX 0 1||(s8 (nth (nth c.k9 n).p8 i).F8.length 0&&(!s8 (nth (nth c.k9 n).p8 i).eX 0|| !s8 (nth (nth c.k9 n).p8 i).jk 0))) ?_ (fun h5=> ?_) (fun h5=> ?_)
 .repeat' (first|refine cl (aH0 (nth c.k9 n) (nth (nth c.k9 n).p8 i).F8 ho hl) ?_|refine cl (IW _ _ _) ?_|refine gx ?_|refine fk (h1:=fun hw=> ?_) (h2:=fun hw=> ?_)|refine R8 (h1:=fun hw=> ?_) (h2:=fun hw=> ?_)|refine ⟨rfl,rfl,_,rfl,?_⟩|refine ⟨rfl,rfl⟩|fail)
  all_goals exact cc
 .refine gr ?_
  exact ⟨_,rfl,by simp only [j7,num,cr,h1,h2,h3,h4,h5,j3,if_true,if_false]⟩
 refine tB (!y7 (nth (nth c.k9 n).p8 i).jk 0 1048576||(!s8 (nth c.k9 n).aA 0&&F0 (nth c.k9 n).aA (nth (nth c.k9 n).p8 i).jk)||(s8 i 0&&F0 0 (nth (nth c.k9 n).p8 i).F8.length&& !s8 (nth c.k9 n).erase 1)) ?_ (fun h6=> ?_) (fun h6=> ?_)
 .repeat' (first|refine cl (IW _ _ _) ?_|refine gx ?_|refine fk (h1:=fun hw=> ?_) (h2:=fun hw=> ?_)|refine R8 (h1:=fun hw=> ?_) (h2:=fun hw=> ?_)|refine ⟨rfl,rfl,_,rfl,?_⟩|refine ⟨rfl,rfl⟩|fail)
  all_goals exact cc
 .refine gr ?_
  exact ⟨_,rfl,by simp only [j7,num,cr,h1,h2,h3,h4,h5,h6,j3,if_true,if_false]⟩
 refine tB ((!M0 (nth (nth c.k9 n).p8 i).refs []&&F0 0 (nth (nth c.k9 (iZ c (nth (nth c.k9 n).p8 i).refs n).toNat).p8 0).F8.length)&& !hasB (nth (nth c.k9 n).p8 i).F8 i) ?_ (fun h7=> ?_) (fun h7=> ?_)
 .repeat' (first|refine cl (bm6 (nth (nth c.k9 n).p8 i).F8 i ho) ?_|refine ixZ (hi:=⟨h3' hw,by omega⟩) (h2:= ?_)|refine ixN (hi:=h3q hw) (h2:= ?_)|refine gx ?_|refine fk (h1:=fun hw=> ?_) (h2:=fun hw=> ?_)|refine R8 (h1:=fun hw=> ?_) (h2:=fun hw=> ?_)|refine ⟨rfl,rfl,_,rfl,?_⟩|refine ⟨rfl,rfl⟩|fail)
  all_goals exact cc
 .refine gr ?_
  exact ⟨_,rfl,by simp only [j7,num,cr,h1,h2,h3,h4,h5,h6,h7,j3,if_true,if_false]⟩
 refine gr ?_;exact ⟨_,rfl,by simp only [j7,num,cr,h1,h2,h3,h4,h5,h6,h7,j3,if_true,if_false]⟩
def fO (c:y5)(n:Nat):Nat->Nat->Int
 |0,_=>0
 |k+1,i=>if !s8 (cr c n i) 0 then cr c n i else fO c n k (i+1)
def fH (c:y5)(n:Nat):Int :=
 if !y7 (nth c.k9 n).p8.length 1 8|| !y7 (nth c.k9 n).erase 0 1|| !y7 (nth c.k9 n).aA 0 1048576 then 1 else fO c n (nth c.k9 n).p8.length 0
structure y5.small (c:y5):Prop where
 qy:c.qy
 p8:∀ n,n<c.k9.length->(nth c.k9 n).p8.length<=1000
 F8:∀ n i,n<c.k9.length->i<(nth c.k9 n).p8.length->(nth (nth c.k9 n).p8 i).F8.length<=1000
def bm2 (c:y5)(n:Nat)(hf:y5.small c)(hn:n<c.k9.length)(hp:∀ m,m<n->0<(nth c.k9 m).p8.length):Pf A 144 [cat c,.d (num n)] (.d (num (fH c n))):=by
 have hl:=hf.p8 n hn;refine Pf.run [cat c,.d (num n),.any,.any,.any,.any,.any] rfl rfl rfl rfl ?_;refine gr ?_;refine tB (!y7 (nth c.k9 n).p8.length 1 8|| !y7 (nth c.k9 n).erase 0 1|| !y7 (nth c.k9 n).aA 0 1048576) ?_ (fun h1=> ?_) (fun h1=> ?_)
 .repeat' (first|refine cl (IW _ _ _) ?_|refine gx ?_|refine fk (h1:=fun hw=> ?_) (h2:=fun hw=> ?_)|refine R8 (h1:=fun hw=> ?_) (h2:=fun hw=> ?_)|refine ⟨rfl,rfl,_,rfl,?_⟩|refine ⟨rfl,rfl⟩|fail)
  all_goals exact cc
 .refine gr ?_
  exact ⟨_,rfl,by simp only [j7,num,fH,h1,if_true]⟩
 refine gr ?_;refine Ex.M5 (fun k T H=>∃ (i:Nat) (v w z:c8),T=[v,.d (num n),.ptr 0 0,w,.ptr 1 0,.d (num i),z]/\H=[.cells (c.enc.map .d),.cells ((nth c.k9 n).enc.map .d)]/\i+k=(nth c.k9 n).p8.length/\fH c n=fO c n k i) (by rintro _ _ _ ⟨_,_,_,_,_,rfl,_⟩;rfl) ?_ (k:=(nth c.k9 n).p8.length) ⟨0,_,_,_,rfl,rfl,by simp,by simp only [fH,h1,j3,if_false]⟩;rintro k _ _ ⟨i,v,w,z,rfl,rfl,hk,hi⟩;refine Ex.nT ?_;refine Ex.seq ?_;refine tb (F0 i (nth c.k9 n).p8.length) (fun h2=> ?_) (fun h2=> ?_)
 .have h3:=A9 h2
  obtain ⟨k,rfl⟩:∃ k',k=k' +1:=⟨k - 1,by omega⟩
  repeat' (first|refine cl (bm8 c n i hf.qy hn (by omega) hl (hf.F8 n i hn (by omega)) hp) ?_|refine gx ?_|refine Ex.O6 ?_|refine Ex.P0 ?_|refine Ex.cond rfl (fun ht=> ?_) (fun ht=> ?_)|refine Ex.test (Rn.text ?_)|refine Ex.test (Rn.draw ?_)|refine ⟨_,rfl,fun ht=> ?_,fun ht=> ?_⟩|refine ⟨_,rfl,?_⟩|fail)
  .simp [j7,hi,fO,ht]
  .exact ⟨k,by omega,i+1,_,_,_,rfl,rfl,by omega,by simp [hi,fO,ht]⟩
 .have h3:=B8 h2
  obtain rfl:k=0:=by omega
  refine gr ?_;exact ⟨_,rfl,by simp [j7,hi,fO,num]⟩
def jW (v:Vw):Bool:=(!M0 v.right []||s8 v.on.length 0)&&ah v.on.length 8&&ah (v.items.length+v.D4.length) 8
def bH (v:Vw):Bool :=
 if s8 v.kind 2 then !M0 v.right []&&s8 v.on.length 0&&s8 v.wh.length 0&&s8 v.items.length 0&&s8 v.D4.length 0&& !v.distinct
 else if s8 v.kind 0 then !(s8 v.items.length 0||F0 0 v.D4.length)&&jW v
 else !(s8 v.D4.length 0||v.distinct)&&jW v
def vw (v:Vw):c8:= .agg (v.enc.map .d)
set_option maxHeartbeats 8000000 in
def bm9 (c:y5)(v:Vw)(h0:v.items.length<=1000)(h1:v.D4.length<=1000):Pf A 200 [cat c,vw v] (.d (.bool (bH v))):=by
 refine Pf.run [cat c,vw v,.any,.any,.any] rfl rfl rfl rfl ?_
 repeat' (first|refine gx ?_|refine fk (h1:=fun hw=> ?_) (h2:=fun hw=> ?_)|refine R8 (h1:=fun hw=> ?_) (h2:=fun hw=> ?_)|refine Ex.O6 ?_|refine Ex.P0 ?_|refine Ex.cond rfl (fun ht=> ?_) (fun ht=> ?_)|refine Ex.test (Rn.text ?_)|refine Ex.test (Rn.draw ?_)|refine ⟨_,rfl,fun ht=> ?_,fun ht=> ?_⟩|refine ⟨_,rfl,?_⟩|fail)
 all_goals first|(simp [*,j7,bH,jW];done)|(simp_all [j7,bH,jW];done)|(simp_all [j7,bH,jW,y3,s9,o6,H7];done)|(simp_all [j7,bH,jW,y3,s9,o6,H7]<;>omega)
def I4 (l r:List Int):List (Int×Int)->Int
 |[]=>0
 |p::ps=>if !y7 p.1 0 (l.length - 1)|| !y7 p.2 0 (r.length - 1) then 3 else if !s8 (nth l p.1.toNat) (nth r p.2.toNat) then 5 else I4 l r ps
def bn1 (on:List (Int×Int))(l r:List Int)(h0:on.length<=1000)(h1:l.length<=100000)(h2:r.length<=100000):Pf A 202 [.d (z8 (fun p=>[num p.1,num p.2]) on),.d (ints l),.d (ints r)] (.d (num (I4 l r on))):=by
 refine Pf.run [.d (z8 (fun p=>[num p.1,num p.2]) on),.d (ints l),.d (ints r),.any,.any] rfl rfl rfl rfl ?_;refine gr ?_;refine Ex.M5 (fun k T H=>∃ (i:Nat) (v:c8),T=[.d (z8 (fun p=>[num p.1,num p.2]) on),.d (ints l),.d (ints r),v,.d (num i)]/\H=[]/\i+k=on.length/\I4 l r on=I4 l r (on.drop i)) (by rintro _ _ _ ⟨_,_,_,rfl,_⟩;rfl) ?_ (k:=on.length) ⟨0,_,rfl,rfl,by simp,by simp⟩;rintro k _ _ ⟨i,v,rfl,rfl,hk,hi⟩;refine Ex.nT ?_;refine Ex.seq ?_;refine tb (F0 i on.length) (fun h3=> ?_) (fun h3=> ?_)
 .have h4:=A9 h3
  rw [B9 (by omega)] at hi;refine gr ?_;refine tB (!y7 (nth on i).1 0 (l.length - 1)|| !y7 (nth on i).2 0 (r.length - 1)) ?_ (fun h5=> ?_) (fun h5=> ?_)
  .repeat' (first|refine cl (IW _ _ _) ?_|refine gx ?_|refine fk (h1:=fun hw=> ?_) (h2:=fun hw=> ?_)|refine R8 (h1:=fun hw=> ?_) (h2:=fun hw=> ?_)|refine ⟨rfl,rfl,_,rfl,?_⟩|refine ⟨rfl,rfl⟩|fail)
   all_goals exact cc
  .refine gr ?_
   exact ⟨_,rfl,by simp only [j7,num,hi,I4,h5,if_true]⟩
  have h6:=h5;simp [y7,s9] at h6
  repeat' (first|refine gx ?_|refine Ex.O6 ?_|refine Ex.P0 ?_|refine Ex.cond rfl (fun ht=> ?_) (fun ht=> ?_)|refine Ex.test (Rn.text ?_)|refine Ex.test (Rn.draw ?_)|refine ⟨_,rfl,fun ht=> ?_,fun ht=> ?_⟩|refine ⟨_,rfl,?_⟩|fail)
  .simp only [j7,num,hi,I4,h5,ht,j3,if_true,if_false]
  .exact ⟨k - 1,by omega,i+1,_,rfl,rfl,by omega,by simp only [hi,I4,h5,ht,j3,if_false]⟩
 .have h4:=B8 h3
  rw [l5 (by omega)] at hi;refine gr ?_;exact ⟨_,rfl,by simp [j7,hi,I4,num]⟩
end Go.Proofs.YtibjocmpkoepoaaGreat

