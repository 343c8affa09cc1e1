import Derived.Test.YtibjocmpkoepoaaGreatAbs
set_option linter.all false
open Bool renaming and_eq_true → c7, false_eq_true → j4, not_eq_false' → C8, not_eq_true' → o7, or_eq_false_iff → G8
open Int renaming toNat_natCast → P0
open List renaming append_assoc → D2, drop_of_length_le → l6, length_append → k9, mem_cons → B8, take_of_length_le → y6
open Nat renaming lt_or_ge → A5
namespace Go.Proofs.YtibjocmpkoepoaaGreat
open Go.A2 Go.A2.S
attribute [local irreducible] Rx Ry Rn Ex Pf
def cQ (n:Int):Bool:=bV 97 n&&bV n 122
def lz (n:Int):Bool:=bV 48 n&&bV n 57
def nU (n:Int):Bool:=cQ n||lz n||s9 n 95
def L3:K4->Bool
 |[]=>false
 |c::r=>E4 r.length 16&&cQ c.toNat&&(c::r).all fun c=>nU c.toNat
def aZ9 (n:Int):Pf A 197 [.d (.int .u8 n)] (.d (.bool (cQ n))):=by
 refine Pf.run [.d (.int .u8 n),.any] rfl rfl rfl rfl ?_
 repeat' (first|refine gx ?_|refine fk (h1:=fun hw=> ?_) (h2:=fun hw=> ?_)|refine U1 (h1:=fun hw=> ?_) (h2:=fun hw=> ?_)|refine Ex.M8 ?_|refine Ex.N6 ?_|refine Ex.cond rfl (fun ht=> ?_) (fun ht=> ?_)|refine Ex.test (Rn.text ?_)|refine Ex.test (Rn.draw ?_)|refine ⟨_,rfl,fun ht=> ?_,fun ht=> ?_⟩|refine ⟨_,rfl,?_⟩|fail)
 all_goals simp_all [j3,cQ]
def aX5 (n:Int):Pf A 244 [.d (.int .u8 n)] (.d (.bool (lz n))):=by
 refine Pf.run [.d (.int .u8 n),.any] rfl rfl rfl rfl ?_
 repeat' (first|refine gx ?_|refine fk (h1:=fun hw=> ?_) (h2:=fun hw=> ?_)|refine U1 (h1:=fun hw=> ?_) (h2:=fun hw=> ?_)|refine Ex.M8 ?_|refine Ex.N6 ?_|refine Ex.cond rfl (fun ht=> ?_) (fun ht=> ?_)|refine Ex.test (Rn.text ?_)|refine Ex.test (Rn.draw ?_)|refine ⟨_,rfl,fun ht=> ?_,fun ht=> ?_⟩|refine ⟨_,rfl,?_⟩|fail)
 all_goals simp_all [j3,lz]
def bE3 (n:Int):Pf A 198 [.d (.int .u8 n)] (.d (.bool (nU n))):=by
 refine Pf.run [.d (.int .u8 n),.any] rfl rfl rfl rfl ?_
 repeat' (first|refine cl (aZ9 _) ?_|refine cl (aX5 _) ?_|refine gx ?_|refine fk (h1:=fun hw=> ?_) (h2:=fun hw=> ?_)|refine U1 (h1:=fun hw=> ?_) (h2:=fun hw=> ?_)|refine Ex.M8 ?_|refine Ex.N6 ?_|refine Ex.cond rfl (fun ht=> ?_) (fun ht=> ?_)|refine Ex.test (Rn.text ?_)|refine Ex.test (Rn.draw ?_)|refine ⟨_,rfl,fun ht=> ?_,fun ht=> ?_⟩|refine ⟨_,rfl,?_⟩|fail)
 all_goals simp_all [j3,nU]
def aD9 (s:K4):Pf A 143 [.d (.str s)] (.d (.bool (L3 s))):=by
 refine Pf.run [.d (.str s),.any,.any] rfl rfl rfl rfl ?_;refine gr ?_;refine Ex.Yo (match s with|[]=>true|c::r=> !(E4 r.length 16&&cQ c.toNat)) (Rn.text ?_) (fun ht=> ?_) (fun ht=> ?_)
 .repeat' (first|refine cl (aZ9 _) ?_|refine gx ?_|refine fk (h1:=fun hw=> ?_) (h2:=fun hw=> ?_)|refine U1 (h1:=fun hw=> ?_) (h2:=fun hw=> ?_)|refine ⟨rfl,rfl,_,rfl,?_⟩|refine ⟨rfl,rfl⟩|fail)
  all_goals cases s
  all_goals first|(simp [*,j3,Y6];done)|(simp_all [j3,Y6];done)|(simp_all [j3,Y6,u0,s6,o8,E5];done)|(simp_all [j3,Y6,u0,s6,o8,E5]<;>omega)
 .refine gr ?_
  refine ⟨_,rfl,?_⟩;cases s with
  |nil=>rfl
  |cons c r =>
   simp only [o7] at ht;simp only [L3,ht,j3,Bool.false_and]
 .cases s with
  |nil=>cases ht
  |cons c r =>
  have hl:=ht;simp [u0] at hl;have hb:(c::r).length<=16:=by simp;omega
  refine gr ?_;refine Ex.I7 (fun k T H=>∃ (i:Nat) (v:c8),T=[.d (.str (c::r)),v,.d (.int .i64 i)]/\H=[]/\i+k=(c::r).length/\L3 (c::r)=((c::r).drop i).all fun c=>nU c.toNat) (by rintro _ _ _ ⟨_,_,_,rfl,_⟩;rfl) ?_ (k:=(c::r).length) ⟨0,_,rfl,rfl,by simp,by simp [L3,hl,u0]⟩;rintro k _ _ ⟨i,v,rfl,rfl,hk,hi⟩;refine Ex.nT ?_
  repeat' (first|refine cl (bE3 _) ?_|refine gx ?_|refine Ex.M8 ?_|refine Ex.N6 ?_|refine Ex.cond rfl (fun ht=> ?_) (fun ht=> ?_)|refine Ex.test (Rn.text ?_)|refine Ex.test (Rn.draw ?_)|refine ⟨_,rfl,fun ht=> ?_,fun ht=> ?_⟩|refine ⟨_,rfl,?_⟩|fail)
  .simp only [o7] at ht
   simp only [j3];have h1:=A6 ‹_›;rw [hi,D3 (by omega)];simp [ht]
  .have h1:=A6 ‹_›
   rw [D3 (by omega)] at hi;simp only [C8] at ht;refine ⟨k - 1,by omega,i+1,_,rfl,rfl,by omega,?_⟩;rw [hi];simp [ht]
  .have h1:=A3 ‹_›
   rw [l6 (by omega)] at hi;simp [hi,j3]
def tG (n a b:Int):Pf A 111 [.d (num n),.d (num a),.d (num b)] (.d (.bool (q8 n a b))):=by
 refine Pf.run [.d (num n),.d (num a),.d (num b),.any] rfl rfl rfl rfl ?_
 repeat' (first|refine gx ?_|refine fk (h1:=fun hw=> ?_) (h2:=fun hw=> ?_)|refine U1 (h1:=fun hw=> ?_) (h2:=fun hw=> ?_)|refine Ex.M8 ?_|refine Ex.N6 ?_|refine Ex.cond rfl (fun ht=> ?_) (fun ht=> ?_)|refine Ex.test (Rn.text ?_)|refine Ex.test (Rn.draw ?_)|refine ⟨_,rfl,fun ht=> ?_,fun ht=> ?_⟩|refine ⟨_,rfl,?_⟩|fail)
 all_goals first|(simp [*,j3,q8];done)|(simp_all [j3,q8];done)|(simp_all [j3,q8,u0,s6,o8,E5];done)|(simp_all [j3,q8,u0,s6,o8,E5]<;>omega)
def pX (n a b:Int):Pf A 210 [.d (num n),.d (num a),.d (num b)] (.d (.bool (q8 n a b))):=by
 refine Pf.run [.d (num n),.d (num a),.d (num b),.any] rfl rfl rfl rfl ?_
 repeat' (first|refine gx ?_|refine fk (h1:=fun hw=> ?_) (h2:=fun hw=> ?_)|refine U1 (h1:=fun hw=> ?_) (h2:=fun hw=> ?_)|refine Ex.M8 ?_|refine Ex.N6 ?_|refine Ex.cond rfl (fun ht=> ?_) (fun ht=> ?_)|refine Ex.test (Rn.text ?_)|refine Ex.test (Rn.draw ?_)|refine ⟨_,rfl,fun ht=> ?_,fun ht=> ?_⟩|refine ⟨_,rfl,?_⟩|fail)
 all_goals first|(simp [*,j3,q8];done)|(simp_all [j3,q8];done)|(simp_all [j3,q8,u0,s6,o8,E5];done)|(simp_all [j3,q8,u0,s6,o8,E5]<;>omega)
def aX8 (n:Int):Pf A 250 [.d (num n)] (.d (.bool (s9 n 1||s9 n 2))):=by
 refine Pf.run [.d (num n),.any] rfl rfl rfl rfl ?_
 repeat' (first|refine gx ?_|refine fk (h1:=fun hw=> ?_) (h2:=fun hw=> ?_)|refine U1 (h1:=fun hw=> ?_) (h2:=fun hw=> ?_)|refine Ex.M8 ?_|refine Ex.N6 ?_|refine Ex.cond rfl (fun ht=> ?_) (fun ht=> ?_)|refine Ex.test (Rn.text ?_)|refine Ex.test (Rn.draw ?_)|refine ⟨_,rfl,fun ht=> ?_,fun ht=> ?_⟩|refine ⟨_,rfl,?_⟩|fail)
 all_goals exact cc
def ints (l:List Int):A2.Data:=B0 (fun n=>[num n]) l
def hasB (l:List Int)(n:Int):Bool:=l.any fun x=>s9 x n
def bE1 (xs:List Int)(n:Int)(hx:xs.length<=1000):Pf A 246 [.d (ints xs),.d (num n)] (.d (.bool (hasB xs n))):=by
 refine Pf.run [.d (ints xs),.d (num n),.any,.any] rfl rfl rfl rfl ?_;refine gr ?_;refine Ex.I7 (fun k T H=>∃ (i:Nat) (v:c8),T=[.d (ints xs),.d (num n),v,.d (num i)]/\H=[]/\i+k=xs.length/\hasB xs n=(xs.drop i).any fun x=>s9 x n) (by rintro _ _ _ ⟨_,_,_,rfl,_⟩;rfl) ?_ (k:=xs.length) ⟨0,_,rfl,rfl,by simp,by simp [hasB]⟩;rintro k _ _ ⟨i,v,rfl,rfl,hk,hi⟩;refine Ex.nT ?_
 repeat' (first|refine gx ?_|refine Ex.M8 ?_|refine Ex.N6 ?_|refine Ex.cond rfl (fun ht=> ?_) (fun ht=> ?_)|refine Ex.test (Rn.text ?_)|refine Ex.test (Rn.draw ?_)|refine ⟨_,rfl,fun ht=> ?_,fun ht=> ?_⟩|refine ⟨_,rfl,?_⟩|fail)
 .have h1:=A6 ‹E4 i _=true›
  rw [D3 (by omega)] at hi;simp [hi,ht,j3]
 .have h1:=A6 ‹E4 i _=true›
  rw [D3 (by omega)] at hi;exact ⟨k - 1,by omega,i+1,_,rfl,rfl,by omega,by simp [hi,ht]⟩
 .have h1:=A3 ht
  rw [l6 (by omega)] at hi;simp [hi,j3]
def fR {α:Type}(eq:α->α->Bool):List α->List α->Bool
 |[],[]=>true
 |a::l,c::m=>eq a c&&fR eq l m
 |_,_=>false
theorem ru {α:Type}{eq:α->α->Bool}:∀ {l m:List α},l.length≠m.length->fR eq l m=false
 |[],[],h=>absurd rfl h
 |[],_::_,_=>rfl
 |_::_,[],_=>rfl
 |a::l,c::m,h=>by simp only [fR,ru (l:=l) (m:=m) (by simpa using h),Bool.and_false]
def bE6 (xs ys:List Int)(hx:xs.length<=100000):Pf A 201 [.d (ints xs),.d (ints ys)] (.d (.bool (fR s9 xs ys))):=by
 refine Pf.run [.d (ints xs),.d (ints ys),.any,.any] rfl rfl rfl rfl ?_
 repeat' (first|refine gx ?_|refine Ex.M8 ?_|refine Ex.N6 ?_|refine Ex.cond rfl (fun ht=> ?_) (fun ht=> ?_)|refine Ex.test (Rn.text ?_)|refine Ex.test (Rn.draw ?_)|refine ⟨_,rfl,fun ht=> ?_,fun ht=> ?_⟩|refine ⟨_,rfl,?_⟩|fail)
 .have h1:xs.length≠ys.length:=by simp [o8] at ht;omega
  simp [ru h1,j3]
 have hl:xs.length=ys.length:=by simp [o8] at ht;omega
 refine Ex.I7 (fun k T H=>∃ (i:Nat) (v:c8),T=[.d (ints xs),.d (ints ys),v,.d (num i)]/\H=[]/\i+k=xs.length/\fR s9 xs ys=fR s9 (xs.drop i) (ys.drop i)) (by rintro _ _ _ ⟨_,_,_,rfl,_⟩;rfl) ?_ (k:=xs.length) ⟨0,_,rfl,rfl,by simp,by simp⟩;rintro k _ _ ⟨i,v,rfl,rfl,hk,hi⟩;refine Ex.nT ?_
 repeat' (first|refine gx ?_|refine Ex.M8 ?_|refine Ex.N6 ?_|refine Ex.cond rfl (fun ht=> ?_) (fun ht=> ?_)|refine Ex.test (Rn.text ?_)|refine Ex.test (Rn.draw ?_)|refine ⟨_,rfl,fun ht=> ?_,fun ht=> ?_⟩|refine ⟨_,rfl,?_⟩|fail)
 .have h1:=A6 ‹E4 i _=true›
  rw [D3 (by omega),D3 (l:=ys) (by omega)] at hi;simp only [o7] at ht;simp [hi,fR,ht,j3]
 .have h1:=A6 ‹E4 i _=true›
  rw [D3 (by omega),D3 (l:=ys) (by omega)] at hi;simp only [C8] at ht;exact ⟨k - 1,by omega,i+1,_,rfl,rfl,by omega,by simp [hi,fR,ht]⟩
 .have h1:=A3 ht
  rw [l6 (by omega),l6 (by omega)] at hi;simp [hi,fR,j3]
def aX2 (xs ys:List Int)(hx:xs.length<=100000):Pf A 218 [.d (ints xs),.d (ints ys)] (.d (.bool (fR s9 xs ys))):=by
 refine Pf.run [.d (ints xs),.d (ints ys),.any,.any,.any,.any] rfl rfl rfl rfl ?_
 repeat' (first|refine gx ?_|refine Ex.M8 ?_|refine Ex.N6 ?_|refine Ex.cond rfl (fun ht=> ?_) (fun ht=> ?_)|refine Ex.test (Rn.text ?_)|refine Ex.test (Rn.draw ?_)|refine ⟨_,rfl,fun ht=> ?_,fun ht=> ?_⟩|refine ⟨_,rfl,?_⟩|fail)
 .have h1:xs.length≠ys.length:=by simp [o8] at ht;omega
  simp [ru h1,j3]
 have hl:xs.length=ys.length:=by simp [o8] at ht;omega
 refine Ex.I7 (fun k T H=>∃ (i:Nat) (v w:c8),T=[.d (ints xs),.d (ints ys),v,w,.d (num xs.length),.d (num i)]/\H=[]/\i+k=xs.length/\fR s9 xs ys=fR s9 (xs.drop i) (ys.drop i)) (by rintro _ _ _ ⟨_,_,_,_,rfl,_⟩;rfl) ?_ (k:=xs.length) ⟨0,_,_,rfl,rfl,by simp,by simp⟩;rintro k _ _ ⟨i,v,w,rfl,rfl,hk,hi⟩;refine Ex.nT ?_
 repeat' (first|refine gx ?_|refine Ex.M8 ?_|refine Ex.N6 ?_|refine Ex.cond rfl (fun ht=> ?_) (fun ht=> ?_)|refine Ex.test (Rn.text ?_)|refine Ex.test (Rn.draw ?_)|refine ⟨_,rfl,fun ht=> ?_,fun ht=> ?_⟩|refine ⟨_,rfl,?_⟩|fail)
 .have h1:=A6 ‹E4 i _=true›
  rw [D3 (by omega),D3 (l:=ys) (by omega)] at hi;simp only [o7] at ht;simp [hi,fR,ht,j3]
 .have h1:=A6 ‹E4 i _=true›
  rw [D3 (by omega),D3 (l:=ys) (by omega)] at hi;simp only [C8] at ht;exact ⟨k - 1,by omega,i+1,_,_,rfl,rfl,by omega,by simp [hi,fR,ht]⟩
 .have h1:=A3 ht
  rw [l6 (by omega),l6 (by omega)] at hi;simp [hi,fR,j3]
def val (k n:Int)(s:K4):c8:= .agg [.d (num k),.d (num n),.d (.str s)]
def trm (t:X0):c8:= .agg (t.enc.map .d)
set_option maxHeartbeats 2000000 in
def aZ4 (k n:Int)(s:K4):Pf A 228 [val k n s] (.d (.bool (iW k n s))):=by
 refine Pf.run [val k n s,.any,.any,.any] rfl rfl rfl rfl ?_
 repeat' (first|refine gx ?_|refine fk (h1:=fun hw=> ?_) (h2:=fun hw=> ?_)|refine U1 (h1:=fun hw=> ?_) (h2:=fun hw=> ?_)|refine Ex.M8 ?_|refine Ex.N6 ?_|refine Ex.cond rfl (fun ht=> ?_) (fun ht=> ?_)|refine Ex.test (Rn.text ?_)|refine Ex.test (Rn.draw ?_)|refine ⟨_,rfl,fun ht=> ?_,fun ht=> ?_⟩|refine ⟨_,rfl,?_⟩|fail)
 all_goals first|(simp [*,j3,iW];done)|(simp_all [j3,iW];done)|(simp_all [j3,iW,u0,s6,o8,E5];done)|(simp_all [j3,iW,u0,s6,o8,E5]<;>omega)
set_option maxHeartbeats 2000000 in
def aZ5 (k n:Int)(s:K4):Pf A 303 [val k n s] (.d (.bool (iW k n s))):=by
 refine Pf.run [val k n s,.any,.any,.any] rfl rfl rfl rfl ?_
 repeat' (first|refine gx ?_|refine fk (h1:=fun hw=> ?_) (h2:=fun hw=> ?_)|refine U1 (h1:=fun hw=> ?_) (h2:=fun hw=> ?_)|refine Ex.M8 ?_|refine Ex.N6 ?_|refine Ex.cond rfl (fun ht=> ?_) (fun ht=> ?_)|refine Ex.test (Rn.text ?_)|refine Ex.test (Rn.draw ?_)|refine ⟨_,rfl,fun ht=> ?_,fun ht=> ?_⟩|refine ⟨_,rfl,?_⟩|fail)
 all_goals first|(simp [*,j3,iW];done)|(simp_all [j3,iW];done)|(simp_all [j3,iW,u0,s6,o8,E5];done)|(simp_all [j3,iW,u0,s6,o8,E5]<;>omega)
set_option maxHeartbeats 2000000 in
def ar0 (t:X0):Pf A 272 [trm t] (.d (.bool (dY t))):=by
 refine Pf.run [trm t,.any,.any,.any] rfl rfl rfl rfl ?_
 repeat' (first|refine cl (aZ4 _ _ _) ?_|refine gx ?_|refine fk (h1:=fun hw=> ?_) (h2:=fun hw=> ?_)|refine U1 (h1:=fun hw=> ?_) (h2:=fun hw=> ?_)|refine Ex.M8 ?_|refine Ex.N6 ?_|refine Ex.cond rfl (fun ht=> ?_) (fun ht=> ?_)|refine Ex.test (Rn.text ?_)|refine Ex.test (Rn.draw ?_)|refine ⟨_,rfl,fun ht=> ?_,fun ht=> ?_⟩|refine ⟨_,rfl,?_⟩|fail)
 all_goals first|(simp [*,j3,dY,zeroV];done)|(simp_all [j3,dY,zeroV];done)|(simp_all [j3,dY,zeroV,u0,s6,o8,E5];done)|(simp_all [j3,dY,zeroV,u0,s6,o8,E5]<;>omega)
set_option maxHeartbeats 2000000 in
def WX (op:Int):Pf A 141 [.d (num op)] (.d (num (oP op))):=by
 refine Pf.run [.d (num op),.any,.any,.any,.any] rfl rfl rfl rfl ?_
 repeat' (first|refine gx ?_|refine fk (h1:=fun hw=> ?_) (h2:=fun hw=> ?_)|refine U1 (h1:=fun hw=> ?_) (h2:=fun hw=> ?_)|refine Ex.M8 ?_|refine Ex.N6 ?_|refine Ex.cond rfl (fun ht=> ?_) (fun ht=> ?_)|refine Ex.test (Rn.text ?_)|refine Ex.test (Rn.draw ?_)|refine ⟨_,rfl,fun ht=> ?_,fun ht=> ?_⟩|refine ⟨_,rfl,?_⟩|fail)
 all_goals first|(simp [*,j3,oP,num];done)|(simp_all [j3,oP,num];done)|(simp_all [j3,oP,num,u0,s6,o8,E5];done)|(simp_all [j3,oP,num,u0,s6,o8,E5]<;>omega)
set_option maxHeartbeats 8000000 in
def Xc (op:Int):Pf A 290 [.d (num op)] (.d (num (oP op))):=by
 refine Pf.run [.d (num op),.any,.any,.any,.any,.any] rfl rfl rfl rfl ?_
 repeat' (first|refine gx ?_|refine fk (h1:=fun hw=> ?_) (h2:=fun hw=> ?_)|refine U1 (h1:=fun hw=> ?_) (h2:=fun hw=> ?_)|refine Ex.M8 ?_|refine Ex.N6 ?_|refine Ex.cond rfl (fun ht=> ?_) (fun ht=> ?_)|refine Ex.test (Rn.text ?_)|refine Ex.test (Rn.draw ?_)|refine ⟨_,rfl,fun ht=> ?_,fun ht=> ?_⟩|refine ⟨_,rfl,?_⟩|fail)
 all_goals first|(simp [*,j3,oP,num];done)|(simp_all [j3,oP,num];done)|(simp_all [j3,oP,num,u0,s6,o8,E5];done)|(simp_all [j3,oP,num,u0,s6,o8,E5]<;>omega)
def aD (e:List X0):c8:= .d (B0 X0.enc e)
def tf (e:List X0)(d p:Nat):Int:=match O6 d (e.drop p) with
 |none=> -1
 |some (_,r)=>((e.length - r.length:Nat):Int)
def GD (e:List X0)(d k p:Nat):Int:=match fJ (O6 d) k (e.drop p) with
 |none=> -1
 |some (_,r)=>((e.length - r.length:Nat):Int)
def Tg {e:List X0}{d p:Nat}(hp:p<e.length)(h:zW (nth e p)=true):tf e (d+1) p=GD e d (oP (nth e p).op).toNat (p+1):=by
 simp only [tf,GD];rw [D3 hp,O6,h,if_pos rfl];cases fJ (O6 d) (oP (nth e p).op).toNat (e.drop (p+1)) with
 |none=>rfl
 |some x=>rfl
def Ej {e:List X0}{d p:Nat}(h:e.length<=p\/d=0\/zW (nth e p)=false):tf e d p= -1:=by
 simp only [tf]
 rcases h with h|h|h
 .rw [l6 h]
  cases d<;>rfl
 .subst h;rfl
 .rcases A5 p e.length with hp|hp
  .rw [D3 hp]
   cases d with
   |zero=>rfl
   |succ d=>rw [O6,h,if_neg (by simp)]
  .rw [l6 hp]
   cases d<;>rfl
def tg (e:List X0)(d p:Nat):(tf e d p= -1/\O6 d (e.drop p)=none)\/∃ q:Nat,tf e d p=q/\q<=e.length/\p<=q/\∃ a,O6 d (e.drop p)=some (a,e.drop q):=by
 simp only [tf];cases h:O6 d (e.drop p) with
 |none=>exact Or.inl ⟨rfl,rfl⟩
 |some x =>
  obtain ⟨a,r⟩:=x;right;obtain ⟨h1,_,_⟩:=U3 d _ a r h;have h2:r.length<=e.length - p:=by
   have:=congrArg List.length h1;simp at this;omega
  have h4:p<=e.length:=by
   rcases A5 e.length p with hp|hp
   .rw [l6 (by omega)] at h1
    have:=congrArg List.length h1;have:=jN a;simp at *
    omega
   .exact hp
  refine ⟨e.length - r.length,rfl,by omega,by omega,a,?_⟩;have h3:e.drop (e.length - r.length)=r:=by
   have h5:e=(e.take p++a.flat)++r:=by rw [D2,<- h1,List.take_append_drop]
   conv=>lhs;rw [h5]
   rw [List.drop_append_of_le_length (by simp;omega),l6 (by simp;omega)];rfl
  rw [h3]
def Tf {e:List X0}{d k p:Nat}:GD e d (k+1) p=if E4 (tf e d p) 0 then -1 else GD e d k (tf e d p).toNat:=by
 rcases tg e d p with ⟨h1,h2⟩|⟨q,h1,_,_,a,h2⟩
 .rw [h1,if_pos (by simp [u0])]
  simp only [GD,fJ,h2]
 .rw [h1,if_neg (by simp [u0])]
  simp only [GD,fJ,h2,P0];cases fJ (O6 d) k (e.drop q) with
  |none=>rfl
  |some x=>rfl
set_option maxHeartbeats 2000000 in
def aq9 (e:List X0)(he:e.length<=1000):∀ d p:Nat,d<=100->p<=2000->Pf A 229 [aD e,.d (num p),.d (num d)] (.d (num (tf e d p))):=by
 intro d
 induction d with
 |zero =>
  intro p _ hp;refine Pf.run [aD e,.d (num p),.d (num (0:Nat)),.any,.any,.any] rfl rfl rfl rfl ?_;refine gr ?_;refine tB (true) ?_ (fun h1=> ?_) (fun h1=> ?_)
  .repeat' (first|refine cl (WX _) ?_|refine cl (ar0 _) ?_|refine gx ?_|refine fk (h1:=fun hw=> ?_) (h2:=fun hw=> ?_)|refine U1 (h1:=fun hw=> ?_) (h2:=fun hw=> ?_)|refine ⟨rfl,rfl,_,rfl,?_⟩|refine ⟨rfl,rfl⟩|fail)
   all_goals exact cc
  .refine gr ?_
   exact ⟨_,rfl,by rw [Ej (Or.inr (Or.inl rfl))];rfl⟩
  .cases h1
 |succ d ih =>
  intro p hd hp;refine Pf.run [aD e,.d (num p),.d (num (d+1:Nat)),.any,.any,.any] rfl rfl rfl rfl ?_;refine gr ?_;refine tB (bV e.length p|| !zW (nth e p)) ?_ (fun h1=> ?_) (fun h1=> ?_)
  .repeat' (first|refine cl (WX _) ?_|refine cl (ar0 _) ?_|refine gx ?_|refine fk (h1:=fun hw=> ?_) (h2:=fun hw=> ?_)|refine U1 (h1:=fun hw=> ?_) (h2:=fun hw=> ?_)|refine ⟨rfl,rfl,_,rfl,?_⟩|refine ⟨rfl,rfl⟩|fail)
   all_goals first|(simp [*,j3,zW];done)|(simp_all [j3,zW];done)|(simp_all [j3,zW,u0,s6,o8,E5];done)|(simp_all [j3,zW,u0,s6,o8,E5]<;>omega)
  .refine gr ?_
   refine ⟨_,rfl,?_⟩;rw [Ej]
   .rfl
   .simp only [Bool.or_eq_true,o7] at h1
    rcases h1 with h|h
    .have:=rW h;left;omega
    .exact Or.inr (Or.inr h)
  simp only [G8,C8] at h1;have h2:=Bp h1.1;have h3:=qM (nth e p).op;have h4:0<=oP (nth e p).op:=by
   have:=h1.2;simp only [zW,c7,o7] at this;exact A3 this.1
  repeat' (first|refine cl (WX _) ?_|refine gx ?_|fail)
  refine Ex.I7 (fun k T H=>∃ (i q:Nat) (v:c8),T=[aD e,.d (num q),.d (num (d+1:Nat)),v,.d (num (oP (nth e p).op)),.d (num i)]/\H=[]/\(i:Int)+k=oP (nth e p).op/\q<=e.length/\tf e (d+1) p=GD e d k q) (by rintro _ _ _ ⟨_,_,_,_,rfl,_⟩;rfl) ?_ (k:=(oP (nth e p).op).toNat) ⟨0,p+1,_,rfl,rfl,by omega,by omega,Tg (by omega) h1.2⟩;rintro k _ _ ⟨i,q,v,rfl,rfl,hk,hq,hi⟩;refine Ex.nT ?_;refine Ex.seq ?_;refine tb (E4 i (oP (nth e p).op)) (fun h5=> ?_) (fun h5=> ?_)
  .have h6:=A6 h5
   obtain ⟨k,rfl⟩:∃ k',k=k' +1:=⟨k - 1,by omega⟩;refine gr ?_;refine cl (ih q (by omega) (by omega)) ?_ (ha:=by rw [show (d:Int)=((d+1:Nat):Int) - 1 by omega];rfl);rw [Tf] at hi
   rcases tg e d q with ⟨e1,_⟩|⟨q',e1,e2,_,_,_⟩
   .rw [e1] at hi ⊢
    have e3:E4 (-1) 0=true:=by simp [u0]
    rw [e3,if_pos rfl] at hi;refine gr ?_;refine tb (true) (fun h7=> ?_) (fun h7=> ?_)
    .refine gr ?_
     exact ⟨_,rfl,by rw [hi];rfl⟩
    .cases h7
   .rw [e1] at hi ⊢
    have e3:E4 (q' :Int) 0=false:=by simp [u0]
    rw [e3,if_neg (by simp)] at hi;refine gr ?_;refine tb (false) (fun h7=> ?_) (fun h7=> ?_)
    .cases h7
    refine gr ?_;exact ⟨k,by omega,i+1,q',_,rfl,rfl,by omega,by omega,hi⟩
  .have h6:=A3 h5
   obtain rfl:k=0:=by omega
   refine gr ?_;refine ⟨_,rfl,?_⟩;have h8:GD e d 0 q=q:=by simp only [GD,fJ,List.length_drop];omega
   rw [hi,h8];rfl
def X7 (e:List X0):Bool:=bV 1 e.length&&bV e.length 64&&s9 (tf e 16 0) e.length
def aq6 (e:List X0)(he:e.length<=1000):Pf A 170 [aD e] (.d (.bool (X7 e))):=by
 refine Pf.run [aD e,.any] rfl rfl rfl rfl ?_
 repeat' (first|refine cl (aq9 e he 16 0 (by omega) (by omega)) ?_|refine gx ?_|refine fk (h1:=fun hw=> ?_) (h2:=fun hw=> ?_)|refine U1 (h1:=fun hw=> ?_) (h2:=fun hw=> ?_)|refine Ex.M8 ?_|refine Ex.N6 ?_|refine Ex.cond rfl (fun ht=> ?_) (fun ht=> ?_)|refine Ex.test (Rn.text ?_)|refine Ex.test (Rn.draw ?_)|refine ⟨_,rfl,fun ht=> ?_,fun ht=> ?_⟩|refine ⟨_,rfl,?_⟩|fail)
 all_goals first|(simp [*,j3,X7];done)|(simp_all [j3,X7];done)|(simp_all [j3,X7,u0,s6,o8,E5];done)|(simp_all [j3,X7,u0,s6,o8,E5]<;>omega)
theorem gQ (e:List X0):X7 e=(gR e).isSome:=by
 unfold X7 gR;cases h:(bV 1 e.length&&bV e.length 64) with
 |false=>rfl
 |true =>
  simp only [if_true,Bool.true_and];simp only [c7] at h;have hl:=rW h.1;simp only [tf,List.drop_zero];cases h1:O6 16 e with
  |none =>
   simp only [Option.isSome_none,o8];simp
  |some x =>
   obtain ⟨a,r⟩:=x;obtain ⟨h2,_,_⟩:=U3 16 e a r h1;have h3:a.flat.length+r.length=e.length:=by rw [h2];simp
   have h4:=jN a;cases r with
   |nil=>simp [o8]
   |cons t r=>simp [o8] at *;omega
def aG6 (l:List bg):c8:= .d (B0 (fun x=>[B0 X0.enc x]) (l.map bg.flat))
def Nn {e:List X0}{p:Nat}{a:bg}{l:List bg}(h:e.drop p=N7 (a::l)):e.drop (p+a.flat.length)=N7 l/\(e.take (p+a.flat.length)).drop p=a.flat:=by
 constructor
 .rw [<- List.drop_drop,h,N7,List.drop_left]
 .rw [List.drop_take,h,Nat.add_sub_cancel_left,N7,List.take_left]
set_option maxHeartbeats 2000000 in
def aY5 (t:X0)(l:List bg)(he:(t::N7 l).length<=1000)(hw:ZQ l)(hd:nJ l<=16):Pf A 230 [aD (t::N7 l)] (aG6 l):=by
 refine Pf.run [aD (t::N7 l),.any,.any,.any,.any] rfl rfl rfl rfl ?_;refine gr ?_;refine Ex.I7 (fun k T H=>∃ (p:Nat) (l1 l2:List bg) (v w:c8),T=[aD (t::N7 l),v,E7 1 (fun x=>[B0 X0.enc x]) (l1.map bg.flat),.d (num p),w]/\H=[]/\k=l2.length/\l=l1++l2/\p<=(t::N7 l).length/\(t::N7 l).drop p=N7 l2/\ZQ l2/\nJ l2<=16) (by rintro _ _ _ ⟨_,_,_,_,_,_,rfl,_⟩;rfl) ?_ (k:=l.length) ⟨1,[],l,_,_,rfl,rfl,rfl,rfl,by simp,rfl,hw,hd⟩;rintro k _ _ ⟨p,l1,l2,v,w,rfl,rfl,hk,hl,hp,hp2,ZJ,hd2⟩;have hlen:=wM l;have Tt:l1.length<=1000:=by
  have:=congrArg List.length hl;simp at this he;omega
 have Bj:(N7 l2).length+p=(t::N7 l).length:=by rw [<- hp2];simp at hp ⊢;omega
 refine Ex.nT ?_;refine Ex.seq ?_;refine tb (E4 p (t::N7 l).length) (fun h1=> ?_) (fun h1=> ?_)
 .have h2:=A6 h1
  cases l2 with
  |nil=>simp [N7] at Bj h2;omega
  |cons a l2 =>
  have h3:=Nn hp2;have h4:tf (t::N7 l) 16 p=((p+a.flat.length:Nat):Int):=by
   simp only [nJ] at hd2;simp only [tf,hp2,N7];rw [Y7 a 16 (N7 l2) ZJ.1 (by omega)];simp only [N7,k9] at Bj;simp only;omega
  have h5:=aq9 (t::N7 l) he 16 p (by omega) (by omega);rw [h4] at h5;simp only [N7,k9] at Bj
  repeat' (first|refine cl (h5) ?_|refine gx ?_|fail)
  refine ⟨l2.length,by simp at hk;omega,p+a.flat.length,l1++[a],l2,.any,.d (num (p+a.flat.length:Nat)),by rw [h3.2];simp [E7],rfl,rfl,by simp [hl],by omega,h3.1,ZJ.2,by simp only [nJ] at hd2;omega⟩
 .have h2:=A3 h1
  cases l2 with
  |cons a l2 =>
   have:=jN a;simp only [N7,k9] at Bj;omega
  |nil =>
  refine gr ?_;refine ⟨_,rfl,?_⟩;simp at hl;subst hl;rfl
def Kn (op:Int)(k:Nat):Prop:=(op=3\/op=9\/op=13\/op=16)/\k=1\/op=18/\k=3\/4<=op/\op<=17/\op≠9/\op≠13/\op≠16/\k=2
def WN {t:X0}{k:Nat}(h:zW t=true)(hk:(oP t.op).toNat=k)(h1:s9 t.op 1=false)(h2:s9 t.op 2=false):Kn t.op k:=by
 simp only [zW,c7,o7] at h;have h3:=A3 h.1;simp only [oP,h1,h2,Bool.or_self,j4,if_false,Bool.or_eq_true,c7] at h3 hk;unfold Kn;split at h3
 .rename_i h4
  rw [if_pos h4] at hk;simp [o8] at h4 hk;left;omega
 .rename_i h4
  rw [if_neg h4] at hk;simp [o8] at h4 h1 h2;split at h3
  .rename_i h5
   rw [if_pos h5] at hk;simp [o8] at h5 hk;right;left;omega
  .rename_i h5
   rw [if_neg h5] at hk;simp [o8] at h5;split at h3
   .rename_i h6
    rw [if_pos h6] at hk;simp [s6] at h6 hk;right;right;omega
   .omega
set_option maxHeartbeats 16000000 in
def aY6 (op:Int)(t:List Int)(h:Kn op t.length):Pf A 231 [.d (num op),.d (ints t)] (.d (num (iV op t))):=by
 unfold Kn at h;refine Pf.run [.d (num op),.d (ints t),.any,.any,.any,.any,.any,.any,.any] rfl rfl rfl rfl ?_
 repeat' (first|refine gx ?_|refine fk (h1:=fun hw=> ?_) (h2:=fun hw=> ?_)|refine U1 (h1:=fun hw=> ?_) (h2:=fun hw=> ?_)|refine Ex.M8 ?_|refine Ex.N6 ?_|refine Ex.cond rfl (fun ht=> ?_) (fun ht=> ?_)|refine Ex.test (Rn.text ?_)|refine Ex.test (Rn.draw ?_)|refine ⟨_,rfl,fun ht=> ?_,fun ht=> ?_⟩|refine ⟨_,rfl,?_⟩|fail)
 all_goals first|(simp [*,j3,iV,num];done)|(simp_all [j3,iV,num];done)|(simp_all [j3,iV,num,u0,s6,o8,E5];done)|(simp_all [j3,iV,num,u0,s6,o8,E5]<;>omega)
def af7 {α:Type} [Inhabited α] (l1:List α)(a:α)(l2:List α):nth (l1++a::l2) l1.length=a:=by
 rw [F2 (by simp)];simp
theorem Ba {a:bg}:∀ {l:List bg},a ∈ l->a.flat.length<=(N7 l).length
 |b::l,h=>by
  simp only [N7,k9]
  rcases B8.1 h with rfl|h
  .omega
  .have:=Ba h;omega
theorem OD {a:bg}:∀ {l:List bg},ZQ l->a ∈ l->a.wf
 |b::l,hw,h=>by
  rcases B8.1 h with rfl|h
  .exact hw.1
  .exact OD hw.2 h
theorem Pb {a:bg}:∀ {l:List bg},a ∈ l->a.dep<=nJ l
 |b::l,h=>by
  simp only [nJ]
  rcases B8.1 h with rfl|h
  .omega
  .have:=Pb h;omega
set_option maxHeartbeats 4000000 in
def aX7 (ty:List Int):∀ (n:Nat) (a:bg),a.flat.length<=n->n<=1000->a.wf->a.dep<=16->Pf A 171 [aD a.flat,.d (ints ty)] (.tuple [.d (num (a.typ ty).1),.d (num (a.typ ty).2)]):=by
 intro n
 induction n with
 |zero=>intro a h;have:=jN a;omega
 |succ n ih =>
 rintro ⟨t,l⟩ hn hn2 hw hd;simp only [bg.flat] at hn ⊢;simp only [bg.dep] at hd;have hle:(t::N7 l).length<=1000:=by omega
 have hpos:0<(t::N7 l).length:=by simp
 have h0:nth (t::N7 l) 0=t:=Y6 _ _;obtain ⟨hok,har,ZK⟩:=hw;have VO:=wM l;have hl3:l.length<=3:=by have:=qM t.op;omega
 refine Pf.run [aD (t::N7 l),.d (ints ty),.any,.any,.any,.any,.any,.any,.any,.any,.any] rfl rfl rfl rfl ?_;refine gr ?_;rw [h0];have bv8:s9 t.op 2=true->s9 t.op 1=false->0<=t.col:=fun h h' =>by
  simp only [zW,dY,h,h',if_true,j4,if_false,c7] at hok;exact rW hok.2.2
 have hl0:(s9 t.op 1||s9 t.op 2)=true->l=[]:=fun h=>by
  have:oP t.op=0:=by unfold oP;rw [h,if_pos rfl]
  rw [this] at har;cases l with
  |nil=>rfl
  |cons a l=>simp at har
 refine tb (s9 t.op 1) (fun h1=> ?_) (fun h1=> ?_)
 .refine gr ?_
  refine ⟨_,rfl,?_⟩;rw [hl0 (by simp [h1])];simp [j3,bg.typ,iH,Cr,h1,o8,num,c8.J3,Y6]
 refine gr ?_;refine tb (s9 t.op 2) (fun h2=> ?_) (fun h2=> ?_)
 .have hc:=bv8 h2 h1
  have VO:=hl0 (by simp [h2]);refine gr ?_;refine tB (bV ty.length t.col) ?_ (fun h3=> ?_) (fun h3=> ?_)
  .repeat' (first|refine gx ?_|refine fk (h1:=fun hw=> ?_) (h2:=fun hw=> ?_)|refine U1 (h1:=fun hw=> ?_) (h2:=fun hw=> ?_)|refine ⟨rfl,rfl,_,rfl,?_⟩|refine ⟨rfl,rfl⟩|fail)
   all_goals first|(simp [*,j3,Y6];done)|(simp_all [j3,Y6];done)|(simp_all [j3,Y6,u0,s6,o8,E5];done)|(simp_all [j3,Y6,u0,s6,o8,E5]<;>omega)
  .refine gr ?_
   refine ⟨_,rfl,?_⟩;rw [VO];simp [j3,bg.typ,iH,Cr,h1,h2,h3,o8,num,c8.J3]
  .have h4:=Bp h3
   refine gr ?_;rw [h0];refine gr ?_;refine ⟨_,rfl,?_⟩;rw [VO];simp [j3,bg.typ,iH,Cr,h1,h2,h3,o8,num,c8.J3]
 have hfit:=WN hok har h1 h2
 repeat' (first|refine cl (aY5 t l hle ZK (by omega)) ?_|refine gx ?_|fail)
 refine Ex.I7 (fun k T H=>∃ (i:Nat) (l1 l2:List bg) (ts:List Int) (v2 v3 v7 v8 v9 v10:c8),T=[aD (t::N7 l),.d (ints ty),v2,v3,E7 1 (fun n=>[num n]) ts,aG6 l,.d (num i),v7,v8,v9,v10]/\H=[]/\i=l1.length/\k=l2.length/\l=l1++l2/\ts.length=l1.length/\(iH ty l).1=ts++(iH ty l2).1/\(iH ty l).2=(iH ty l2).2) (by rintro _ _ _ ⟨_,_,_,_,_,_,_,_,_,_,_,rfl,_⟩;rfl) ?_ (k:=l.length) ⟨0,[],l,[],_,_,_,_,_,_,rfl,rfl,rfl,rfl,rfl,rfl,rfl,rfl⟩;rintro k _ _ ⟨i,l1,l2,ts,v2,v3,v7,v8,v9,v10,rfl,rfl,DG,hk,hl,hts,e1,e2⟩;have hlen:l.length=l1.length+l2.length:=by rw [hl];simp
 refine Ex.nT ?_;refine Ex.seq ?_;unfold aG6;refine tb (E4 i l.length) (fun h3=> ?_) (fun h3=> ?_)
 .have h4:=A6 h3
  cases l2 with
  |nil=>simp at hlen;omega
  |cons a l2 =>
  have hm:nth (l.map bg.flat) i=a.flat:=by
   have:=af7 (l1.map bg.flat) a.flat (l2.map bg.flat);rw [hl,DG];simpa using this
  have ha:a ∈ l:=by rw [hl];simp
  have hp:=ih a (by have:=Ba ha;simp at hn;omega) (by omega) (OD ZK ha) (by have:=Pb ha;omega);have hlm:i<(l.map bg.flat).length:=by simp;omega
  refine gr ?_;rw [hm];simp only [iH] at e1 e2
  repeat' (first|refine cl (hp) ?_|refine gx ?_|fail)
  refine tb (!s9 (a.typ ty).2 0) (fun h5=> ?_) (fun h5=> ?_)
  .simp only [o7] at h5
   simp only [h5,j4,if_false] at e1 e2;refine gr ?_;refine ⟨_,rfl,?_⟩;simp [j3,bg.typ,e2,h5,c8.J3,num]
  .simp only [C8] at h5
   simp only [h5,if_true] at e1 e2;refine gr ?_;exact ⟨l2.length,by simp at hk;omega,i+1,l1++[a],l2,ts++[(a.typ ty).1],_,_,_,_,_,_,rfl,rfl,by simp [DG],rfl,by simp [hl],by simp [hts],by simp [e1],e2⟩
 .have h4:=A3 h3
  cases l2 with
  |cons a l2=>simp at hlen;omega
  |nil =>
  simp only [iH,List.append_nil] at e1 e2;refine gr ?_;rw [h0];have aQ4:Kn t.op ts.length:=by rw [hts];simpa [hl] using hfit
  repeat' (first|refine cl (aY6 t.op ts aQ4) ?_|refine gx ?_|fail)
  refine tb (s9 (iV t.op ts) 0) (fun h5=> ?_) (fun h5=> ?_)
  .refine gr ?_
   refine ⟨_,rfl,?_⟩;simp [j3,bg.typ,e1,e2,h1,h2,h5,Cr,c8.J3,num,o8]
  .refine gr ?_
   refine ⟨_,rfl,?_⟩;simp [j3,bg.typ,e1,e2,h1,h2,h5,Cr,c8.J3,num,o8]
def pair (p:Int×Int):c8:= .tuple [.d (num p.1),.d (num p.2)]
set_option maxHeartbeats 2000000 in
def PS (e:List X0)(ty:List Int)(he:e.length<=1000)(ht:ty.length<=100000):Pf A 114 [aD e,.d (ints ty)] (pair (M5 e ty)):=by
 refine Pf.run [aD e,.d (ints ty),.any,.any,.any] rfl rfl rfl rfl ?_;refine gr ?_;refine tB (!X7 e) ?_ (fun h1=> ?_) (fun h1=> ?_)
 .repeat' (first|refine cl (aq6 e he) ?_|refine gx ?_|refine fk (h1:=fun hw=> ?_) (h2:=fun hw=> ?_)|refine U1 (h1:=fun hw=> ?_) (h2:=fun hw=> ?_)|refine ⟨rfl,rfl,_,rfl,?_⟩|refine ⟨rfl,rfl⟩|fail)
  all_goals exact cc
 .refine gr ?_
  refine ⟨_,rfl,?_⟩;rw [gQ] at h1;cases h2:gR e with
  |none=>simp [M5,h2,j3,pair,num,c8.J3]
  |some a=>simp [h2] at h1
 rw [gQ] at h1;cases h2:gR e with
 |none=>simp [h2] at h1
 |some a =>
 have h3:e=a.flat/\a.wf/\a.dep<=16:=by
  unfold gR at h2;split at h2
  .split at h2
   .rename_i b h4
    obtain ⟨e1,e2,e3⟩:=U3 16 e b [] h4;cases h2;exact ⟨by simpa using e1,e2,e3⟩
   .cases h2
  .cases h2
 refine gr ?_;refine Ex.I7 (fun k T H=>∃ (i:Nat) (v w:c8),T=[aD e,.d (ints ty),v,w,.d (num i)]/\H=[]/\i+k=ty.length/\dx ty=dx (ty.drop i)) (by rintro _ _ _ ⟨_,_,_,_,rfl,_⟩;rfl) ?_ (k:=ty.length) ⟨0,_,_,rfl,rfl,by simp,by simp⟩;rintro k _ _ ⟨i,v,w,rfl,rfl,hk,hi⟩;refine Ex.nT ?_;refine Ex.seq ?_;refine tb (E4 i ty.length) (fun h4=> ?_) (fun h4=> ?_)
 .have h5:=A6 h4
  rw [D3 (by omega)] at hi;refine gr ?_;refine tb (!s9 (nth ty i) 1&& !s9 (nth ty i) 2) (fun h6=> ?_) (fun h6=> ?_)
  .refine gr ?_
   refine ⟨_,rfl,?_⟩;have h7:dx ty=false:=by
    rw [hi];simp only [c7,o7] at h6;simp [dx,h6]
   simp [M5,h2,h7,j3,pair,num,c8.J3]
  .refine gr ?_
   refine ⟨k - 1,by omega,i+1,_,_,rfl,rfl,by omega,?_⟩;rw [hi];simp only [dx,List.all_cons];cases h7:s9 (nth ty i) 1<;>cases h8:s9 (nth ty i) 2<;>simp_all
 .have h5:=A3 h4
  rw [l6 (by omega)] at hi;have h6:=aX7 ty e.length a (by rw [h3.1];omega) he h3.2.1 h3.2.2;rw [<- h3.1] at h6
  repeat' (first|refine cl (h6) ?_|refine gx ?_|fail)
  refine ⟨_,rfl,?_⟩;have hg:dx ty=true:=by rw [hi];rfl
  simp [M5,h2,hg,j3,pair,c8.J3]
def encS (s:K4):List A2.Data:=[.str s]
set_option maxHeartbeats 4000000 in
def aZ7 (c:r9)(hf:c.oB):Pf A 142 [cat c] (.d (B0 encS c.names)):=by
 obtain ⟨f0,f1,f2,f3,f4,f5,f6,f7⟩:=hf;refine Pf.run [cat c,.any,.any,.any,.any,.any,.any,.any,.any,.any,.any,.any] rfl rfl rfl rfl ?_;refine gr ?_;refine Ex.I7 (fun k T H=>∃ (i:Nat) (acc:List K4) (v0 v2 w5 w6 w7 w8 w9 iL iM:c8),T=[v0,.ptr 0 0,v2,E7 1 encS acc,.d (num i),w5,w6,w7,w8,w9,iL,iM]/\H=[.cells (c.enc.map .d)]/\i+k=c.j9.length/\acc=([]:List K4)++(c.j9.take i).map jj.name) (by rintro _ _ _ ⟨_,_,_,_,_,_,_,_,_,_,_,_,rfl,_⟩;rfl) ?_ (k:=c.j9.length) ⟨0,([]:List K4),_,_,_,_,_,_,_,_,_,rfl,rfl,by simp,by simp⟩;rintro k _ _ ⟨i,acc,v0,v2,w5,w6,w7,w8,w9,iL,iM,rfl,rfl,hk,hacc⟩;have hl:acc.length=0+i:=by rw [hacc];simp;omega
 refine Ex.nT ?_
 repeat' (first|refine gx ?_|refine Ex.M8 ?_|refine Ex.N6 ?_|refine Ex.cond rfl (fun ht=> ?_) (fun ht=> ?_)|refine Ex.test (Rn.text ?_)|refine Ex.test (Rn.draw ?_)|refine ⟨_,rfl,fun ht=> ?_,fun ht=> ?_⟩|refine ⟨_,rfl,?_⟩|fail)
 .have h1:=A6 ht
  refine ⟨k - 1,by omega,i+1,acc++[(nth c.j9 i).name],_,_,_,_,_,_,_,_,_,rfl,rfl,by omega,?_⟩;rw [H9 (by omega),hacc];simp
 have h1:=A3 ht;rw [y6 (by omega)] at hacc;clear ht h1 hk hl;subst hacc;refine Ex.I7 (fun k T H=>∃ (i:Nat) (acc:List K4) (v0 v2 w4 w6 w7 w8 w9 iL iM:c8),T=[v0,.ptr 0 0,v2,E7 1 encS acc,w4,.d (num i),w6,w7,w8,w9,iL,iM]/\H=[.cells (c.enc.map .d)]/\i+k=c.views.length/\acc=c.j9.map jj.name++(c.views.take i).map Vw.name) (by rintro _ _ _ ⟨_,_,_,_,_,_,_,_,_,_,_,_,rfl,_⟩;rfl) ?_ (k:=c.views.length) ⟨0,c.j9.map jj.name,_,_,_,_,_,_,_,_,_,rfl,rfl,by simp,by simp⟩;rintro k _ _ ⟨i,acc,v0,v2,w4,w6,w7,w8,w9,iL,iM,rfl,rfl,hk,hacc⟩;have hl:acc.length=0+c.j9.length+i:=by rw [hacc];simp;omega
 refine Ex.nT ?_
 repeat' (first|refine gx ?_|refine Ex.M8 ?_|refine Ex.N6 ?_|refine Ex.cond rfl (fun ht=> ?_) (fun ht=> ?_)|refine Ex.test (Rn.text ?_)|refine Ex.test (Rn.draw ?_)|refine ⟨_,rfl,fun ht=> ?_,fun ht=> ?_⟩|refine ⟨_,rfl,?_⟩|fail)
 .have h1:=A6 ht
  refine ⟨k - 1,by omega,i+1,acc++[(nth c.views i).name],_,_,_,_,_,_,_,_,_,rfl,rfl,by omega,?_⟩;rw [H9 (by omega),hacc];simp
 have h1:=A3 ht;rw [y6 (by omega)] at hacc;clear ht h1 hk hl;subst hacc;refine Ex.I7 (fun k T H=>∃ (i:Nat) (acc:List K4) (v0 v2 w4 w5 w7 w8 w9 iL iM:c8),T=[v0,.ptr 0 0,v2,E7 1 encS acc,w4,w5,.d (num i),w7,w8,w9,iL,iM]/\H=[.cells (c.enc.map .d)]/\i+k=c.idxs.length/\acc=c.j9.map jj.name++c.views.map Vw.name++(c.idxs.take i).map oy.name) (by rintro _ _ _ ⟨_,_,_,_,_,_,_,_,_,_,_,_,rfl,_⟩;rfl) ?_ (k:=c.idxs.length) ⟨0,c.j9.map jj.name++c.views.map Vw.name,_,_,_,_,_,_,_,_,_,rfl,rfl,by simp,by simp⟩;rintro k _ _ ⟨i,acc,v0,v2,w4,w5,w7,w8,w9,iL,iM,rfl,rfl,hk,hacc⟩;have hl:acc.length=0+c.j9.length+c.views.length+i:=by rw [hacc];simp;omega
 refine Ex.nT ?_
 repeat' (first|refine gx ?_|refine Ex.M8 ?_|refine Ex.N6 ?_|refine Ex.cond rfl (fun ht=> ?_) (fun ht=> ?_)|refine Ex.test (Rn.text ?_)|refine Ex.test (Rn.draw ?_)|refine ⟨_,rfl,fun ht=> ?_,fun ht=> ?_⟩|refine ⟨_,rfl,?_⟩|fail)
 .have h1:=A6 ht
  refine ⟨k - 1,by omega,i+1,acc++[(nth c.idxs i).name],_,_,_,_,_,_,_,_,_,rfl,rfl,by omega,?_⟩;rw [H9 (by omega),hacc];simp
 have h1:=A3 ht;rw [y6 (by omega)] at hacc;clear ht h1 hk hl;subst hacc;refine Ex.I7 (fun k T H=>∃ (i:Nat) (acc:List K4) (v0 v2 w4 w5 w6 w8 w9 iL iM:c8),T=[v0,.ptr 0 0,v2,E7 1 encS acc,w4,w5,w6,.d (num i),w8,w9,iL,iM]/\H=[.cells (c.enc.map .d)]/\i+k=c.M3.length/\acc=c.j9.map jj.name++c.views.map Vw.name++c.idxs.map oy.name++(c.M3.take i).map nC.name) (by rintro _ _ _ ⟨_,_,_,_,_,_,_,_,_,_,_,_,rfl,_⟩;rfl) ?_ (k:=c.M3.length) ⟨0,c.j9.map jj.name++c.views.map Vw.name++c.idxs.map oy.name,_,_,_,_,_,_,_,_,_,rfl,rfl,by simp,by simp⟩;rintro k _ _ ⟨i,acc,v0,v2,w4,w5,w6,w8,w9,iL,iM,rfl,rfl,hk,hacc⟩;have hl:acc.length=0+c.j9.length+c.views.length+c.idxs.length+i:=by rw [hacc];simp;omega
 refine Ex.nT ?_
 repeat' (first|refine gx ?_|refine Ex.M8 ?_|refine Ex.N6 ?_|refine Ex.cond rfl (fun ht=> ?_) (fun ht=> ?_)|refine Ex.test (Rn.text ?_)|refine Ex.test (Rn.draw ?_)|refine ⟨_,rfl,fun ht=> ?_,fun ht=> ?_⟩|refine ⟨_,rfl,?_⟩|fail)
 .have h1:=A6 ht
  refine ⟨k - 1,by omega,i+1,acc++[(nth c.M3 i).name],_,_,_,_,_,_,_,_,_,rfl,rfl,by omega,?_⟩;rw [H9 (by omega),hacc];simp
 have h1:=A3 ht;rw [y6 (by omega)] at hacc;clear ht h1 hk hl;subst hacc;refine Ex.I7 (fun k T H=>∃ (i:Nat) (acc:List K4) (v0 v2 w4 w5 w6 w7 w9 iL iM:c8),T=[v0,.ptr 0 0,v2,E7 1 encS acc,w4,w5,w6,w7,.d (num i),w9,iL,iM]/\H=[.cells (c.enc.map .d)]/\i+k=c.N5.length/\acc=c.j9.map jj.name++c.views.map Vw.name++c.idxs.map oy.name++c.M3.map nC.name++(c.N5.take i).map qL.name) (by rintro _ _ _ ⟨_,_,_,_,_,_,_,_,_,_,_,_,rfl,_⟩;rfl) ?_ (k:=c.N5.length) ⟨0,c.j9.map jj.name++c.views.map Vw.name++c.idxs.map oy.name++c.M3.map nC.name,_,_,_,_,_,_,_,_,_,rfl,rfl,by simp,by simp⟩;rintro k _ _ ⟨i,acc,v0,v2,w4,w5,w6,w7,w9,iL,iM,rfl,rfl,hk,hacc⟩;have hl:acc.length=0+c.j9.length+c.views.length+c.idxs.length+c.M3.length+i:=by rw [hacc];simp;omega
 refine Ex.nT ?_
 repeat' (first|refine gx ?_|refine Ex.M8 ?_|refine Ex.N6 ?_|refine Ex.cond rfl (fun ht=> ?_) (fun ht=> ?_)|refine Ex.test (Rn.text ?_)|refine Ex.test (Rn.draw ?_)|refine ⟨_,rfl,fun ht=> ?_,fun ht=> ?_⟩|refine ⟨_,rfl,?_⟩|fail)
 .have h1:=A6 ht
  refine ⟨k - 1,by omega,i+1,acc++[(nth c.N5 i).name],_,_,_,_,_,_,_,_,_,rfl,rfl,by omega,?_⟩;rw [H9 (by omega),hacc];simp
 have h1:=A3 ht;rw [y6 (by omega)] at hacc;clear ht h1 hk hl;subst hacc;refine Ex.I7 (fun k T H=>∃ (i:Nat) (acc:List K4) (v0 v2 w4 w5 w6 w7 w8 iL iM:c8),T=[v0,.ptr 0 0,v2,E7 1 encS acc,w4,w5,w6,w7,w8,.d (num i),iL,iM]/\H=[.cells (c.enc.map .d)]/\i+k=c.R3.length/\acc=c.j9.map jj.name++c.views.map Vw.name++c.idxs.map oy.name++c.M3.map nC.name++c.N5.map qL.name++(c.R3.take i).map oT.name) (by rintro _ _ _ ⟨_,_,_,_,_,_,_,_,_,_,_,_,rfl,_⟩;rfl) ?_ (k:=c.R3.length) ⟨0,c.j9.map jj.name++c.views.map Vw.name++c.idxs.map oy.name++c.M3.map nC.name++c.N5.map qL.name,_,_,_,_,_,_,_,_,_,rfl,rfl,by simp,by simp⟩;rintro k _ _ ⟨i,acc,v0,v2,w4,w5,w6,w7,w8,iL,iM,rfl,rfl,hk,hacc⟩;have hl:acc.length=0+c.j9.length+c.views.length+c.idxs.length+c.M3.length+c.N5.length+i:=by rw [hacc];simp;omega
 refine Ex.nT ?_
 repeat' (first|refine gx ?_|refine Ex.M8 ?_|refine Ex.N6 ?_|refine Ex.cond rfl (fun ht=> ?_) (fun ht=> ?_)|refine Ex.test (Rn.text ?_)|refine Ex.test (Rn.draw ?_)|refine ⟨_,rfl,fun ht=> ?_,fun ht=> ?_⟩|refine ⟨_,rfl,?_⟩|fail)
 .have h1:=A6 ht
  refine ⟨k - 1,by omega,i+1,acc++[(nth c.R3 i).name],_,_,_,_,_,_,_,_,_,rfl,rfl,by omega,?_⟩;rw [H9 (by omega),hacc];simp
 have h1:=A3 ht;rw [y6 (by omega)] at hacc;clear ht h1 hk hl;subst hacc;refine Ex.I7 (fun k T H=>∃ (i:Nat) (acc:List K4) (v0 v2 w4 w5 w6 w7 w8 w9 iM:c8),T=[v0,.ptr 0 0,v2,E7 1 encS acc,w4,w5,w6,w7,w8,w9,.d (num i),iM]/\H=[.cells (c.enc.map .d)]/\i+k=c.S0.length/\acc=c.j9.map jj.name++c.views.map Vw.name++c.idxs.map oy.name++c.M3.map nC.name++c.N5.map qL.name++c.R3.map oT.name++(c.S0.take i).map tP.name) (by rintro _ _ _ ⟨_,_,_,_,_,_,_,_,_,_,_,_,rfl,_⟩;rfl) ?_ (k:=c.S0.length) ⟨0,c.j9.map jj.name++c.views.map Vw.name++c.idxs.map oy.name++c.M3.map nC.name++c.N5.map qL.name++c.R3.map oT.name,_,_,_,_,_,_,_,_,_,rfl,rfl,by simp,by simp⟩;rintro k _ _ ⟨i,acc,v0,v2,w4,w5,w6,w7,w8,w9,iM,rfl,rfl,hk,hacc⟩;have hl:acc.length=0+c.j9.length+c.views.length+c.idxs.length+c.M3.length+c.N5.length+c.R3.length+i:=by rw [hacc];simp;omega
 refine Ex.nT ?_
 repeat' (first|refine gx ?_|refine Ex.M8 ?_|refine Ex.N6 ?_|refine Ex.cond rfl (fun ht=> ?_) (fun ht=> ?_)|refine Ex.test (Rn.text ?_)|refine Ex.test (Rn.draw ?_)|refine ⟨_,rfl,fun ht=> ?_,fun ht=> ?_⟩|refine ⟨_,rfl,?_⟩|fail)
 .have h1:=A6 ht
  refine ⟨k - 1,by omega,i+1,acc++[(nth c.S0 i).name],_,_,_,_,_,_,_,_,_,rfl,rfl,by omega,?_⟩;rw [H9 (by omega),hacc];simp
 have h1:=A3 ht;rw [y6 (by omega)] at hacc;clear ht h1 hk hl;subst hacc;refine Ex.I7 (fun k T H=>∃ (i:Nat) (acc:List K4) (v0 v2 w4 w5 w6 w7 w8 w9 iL:c8),T=[v0,.ptr 0 0,v2,E7 1 encS acc,w4,w5,w6,w7,w8,w9,iL,.d (num i)]/\H=[.cells (c.enc.map .d)]/\i+k=c.V3.length/\acc=c.j9.map jj.name++c.views.map Vw.name++c.idxs.map oy.name++c.M3.map nC.name++c.N5.map qL.name++c.R3.map oT.name++c.S0.map tP.name++(c.V3.take i).map tN.name) (by rintro _ _ _ ⟨_,_,_,_,_,_,_,_,_,_,_,_,rfl,_⟩;rfl) ?_ (k:=c.V3.length) ⟨0,c.j9.map jj.name++c.views.map Vw.name++c.idxs.map oy.name++c.M3.map nC.name++c.N5.map qL.name++c.R3.map oT.name++c.S0.map tP.name,_,_,_,_,_,_,_,_,_,rfl,rfl,by simp,by simp⟩;rintro k _ _ ⟨i,acc,v0,v2,w4,w5,w6,w7,w8,w9,iL,rfl,rfl,hk,hacc⟩;have hl:acc.length=0+c.j9.length+c.views.length+c.idxs.length+c.M3.length+c.N5.length+c.R3.length+c.S0.length+i:=by rw [hacc];simp;omega
 refine Ex.nT ?_
 repeat' (first|refine gx ?_|refine Ex.M8 ?_|refine Ex.N6 ?_|refine Ex.cond rfl (fun ht=> ?_) (fun ht=> ?_)|refine Ex.test (Rn.text ?_)|refine Ex.test (Rn.draw ?_)|refine ⟨_,rfl,fun ht=> ?_,fun ht=> ?_⟩|refine ⟨_,rfl,?_⟩|fail)
 .have h1:=A6 ht
  refine ⟨k - 1,by omega,i+1,acc++[(nth c.V3 i).name],_,_,_,_,_,_,_,_,_,rfl,rfl,by omega,?_⟩;rw [H9 (by omega),hacc];simp
 have h1:=A3 ht;rw [y6 (by omega)] at hacc;clear ht h1 hk hl;subst hacc;simp [j3,B0,E7,r9.names]
def r9.sn (c:r9):List K4:=c.j9.map jj.name++c.views.map Vw.name
def r9.ns (c:r9):Nat:=c.j9.length+c.views.length
def I9 (name:K4):List K4->Nat->Int
 |[],_=> -1
 |x::r,i=>if O1 x name then i else I9 name r (i+1)
def F1 (c:r9)(name:K4)(n:Nat):Int:=I9 name ((r9.sn c).take n) 0
theorem Z5 (c:r9):(r9.sn c).length=r9.ns c:=by simp [r9.sn,r9.ns]
def BA (c:r9){i:Nat}(h:i<r9.ns c):nth c.names i=nth (r9.sn c) i:=by
 have h1:c.names=r9.sn c++(c.idxs.map oy.name++c.M3.map nC.name++c.N5.map qL.name++c.R3.map oT.name++c.S0.map tP.name++c.V3.map tN.name):=by simp [r9.names,r9.sn]
 have h2:i<(r9.sn c).length:=by grind [Z5]
 grind [F2,List.getElem_append_left]
theorem gK (c:r9):r9.ns c<=c.names.length:=by simp [r9.names,r9.ns]
def Hq (c:r9)(name:K4)(n:Nat)(hf:c.oB)(hn:n<=100000):Pf A 112 [cat c,.d (.str name),.d (num n)] (.d (num (F1 c name n))):=by
 have hl:=gK c;have hc:r9.ns c<=2000:=by obtain ⟨f0,f1,_⟩:=hf;grind [r9.ns]
 have hs:=Z5 c;have ux :c.j9.length+c.views.length<=2000:=hc;refine Pf.run [cat c,.d (.str name),.d (num n),.any,.any,.any,.any] rfl rfl rfl rfl ?_
 repeat' (first|refine cl (aZ7 c hf) ?_|refine gx ?_|fail)
 refine Ex.I7 (fun k T H=>∃ (i:Nat) (v w:c8),T=[v,.d (.str name),.d (num n),.ptr 0 0,w,.d (B0 encS c.names),.d (num i)]/\H=[.cells (c.enc.map .d)]/\i+k=r9.ns c/\i<=n/\F1 c name n=I9 name (((r9.sn c).take n).drop i) i) (by simp_all) ?_ (k:=r9.ns c) ⟨0,_,_,rfl,rfl,by simp,by omega,by simp [F1]⟩;rintro k _ _ ⟨i,v,w,rfl,rfl,hk,hin,hi⟩;refine Ex.nT ?_;refine Ex.seq ?_;refine tB (E4 i n&&E4 i (r9.ns c)) ?_ (fun h1=> ?_) (fun h1=> ?_)
 .repeat' (first|refine gx ?_|refine fk (h1:=fun hw=> ?_) (h2:=fun hw=> ?_)|refine U1 (h1:=fun hw=> ?_) (h2:=fun hw=> ?_)|refine ⟨rfl,rfl,_,rfl,?_⟩|refine ⟨rfl,rfl⟩|fail)
  all_goals grind [j3,r9.ns,u0,s6,o8,E5]
 .simp [c7] at h1
  have h2:=A6 h1.1;have h3:=A6 h1.2;have h4:((r9.sn c).take n).drop i=nth (r9.sn c) i::((r9.sn c).take n).drop (i+1):=by
   grind [D3,F2]
  rw [h4,<- BA c (by omega)] at hi
  repeat' (first|refine gx ?_|refine Ex.M8 ?_|refine Ex.N6 ?_|refine Ex.cond rfl (fun ht=> ?_) (fun ht=> ?_)|refine Ex.test (Rn.text ?_)|refine Ex.test (Rn.draw ?_)|refine ⟨_,rfl,fun ht=> ?_,fun ht=> ?_⟩|refine ⟨_,rfl,?_⟩|fail)
  .grind [I9,j3,num]
  .exact ⟨k - 1,by omega,i+1,_,_,rfl,rfl,by omega,by omega,by grind [I9]⟩
 .repeat' (first|refine gx ?_|refine Ex.M8 ?_|refine Ex.N6 ?_|refine Ex.cond rfl (fun ht=> ?_) (fun ht=> ?_)|refine Ex.test (Rn.text ?_)|refine Ex.test (Rn.draw ?_)|refine ⟨_,rfl,fun ht=> ?_,fun ht=> ?_⟩|refine ⟨_,rfl,?_⟩|fail)
  grind [r9.sn,l6,u0,I9,j3,num]
def gn (c:r9)(name:K4)(n:Nat):Int:=F1 c name (min n c.j9.length)
def WW (c:r9)(name:K4)(n:Nat)(hf:c.oB)(hn:n<=100000):Pf A 207 [cat c,.d (.str name),.d (num n)] (.d (num (gn c name n))):=by
 refine Pf.run [cat c,.d (.str name),.d (num n),.any,.any] rfl rfl rfl rfl ?_;refine gr ?_;have e:(if (c.j9.length:Int)<(n:Int) then (c.j9.length:Int) else (n:Int))=((min n c.j9.length:Nat):Int):=by split<;>omega
 refine cl (Hq c name (min n c.j9.length) hf (by omega)) ?_ (ha:=by rw [num,<- e];rfl);refine gr ?_;exact ⟨_,rfl,rfl⟩
def aq (t:jj):Int->List Int->Bool
 |_,[]=>true
 |p,o::r=>E4 p o&&E4 o t.q7.length&& !(O1 (nth t.q7 o.toNat).space []&&O1 (nth t.q7 o.toNat).refs [])&&aq t o r
def ny (t:jj):c8:= .agg (t.enc.map .d)
def aX6 (t:jj)(xs:List Int)(hx:xs.length<=1000)(hc:t.q7.length<=1000):Pf A 245 [ny t,.d (ints xs)] (.d (.bool (aq t (-1) xs))):=by
 refine Pf.run [ny t,.d (ints xs),.any,.any,.any] rfl rfl rfl rfl ?_;refine gr ?_;refine Ex.I7 (fun k T H=>∃ (i:Nat) (v w:c8) (p:Int),T=[v,.d (ints xs),.ptr 0 0,w,.d (num i)]/\H=[.cells (t.enc.map .d)]/\i+k=xs.length/\p=(if i=0 then -1 else nth xs (i - 1))/\ -1<=p/\aq t (-1) xs=aq t p (xs.drop i)) (by rintro _ _ _ ⟨_,_,_,_,_,rfl,_⟩;rfl) ?_ (k:=xs.length) ⟨0,_,_, -1,rfl,rfl,by simp,by simp,by omega,by simp⟩;rintro k _ _ ⟨i,v,w,p,rfl,rfl,hk,hp,hp1,hi⟩;refine Ex.nT ?_;refine Ex.seq ?_;refine tb (E4 i xs.length) (fun h1=> ?_) (fun h1=> ?_)
 .have h2:=A6 h1
  rw [D3 (by omega)] at hi;have hq:(((i:Int) - 1).toNat)=i - 1:=by omega
  refine gr ?_;refine tB (!(q8 (nth xs i) 0 (t.q7.length - 1))||(E4 0 i&&bV (nth xs i) (nth xs (i - 1)))||(O1 (nth t.q7 (nth xs i).toNat).space []&&O1 (nth t.q7 (nth xs i).toNat).refs [])) ?_ (fun h3=> ?_) (fun h3=> ?_)
  .repeat' (first|refine cl (tG _ _ _) ?_|refine gx ?_|refine fk (h1:=fun hw=> ?_) (h2:=fun hw=> ?_)|refine U1 (h1:=fun hw=> ?_) (h2:=fun hw=> ?_)|refine ⟨rfl,rfl,_,rfl,?_⟩|refine ⟨rfl,rfl⟩|fail)
   all_goals first|(simp [*,j3,hq];done)|(simp_all [j3,hq];done)|(simp_all [j3,hq,u0,s6,o8,E5];done)|(simp_all [j3,hq,u0,s6,o8,E5]<;>omega)
  .refine gr ?_
   refine ⟨_,rfl,?_⟩;have h5:(E4 p (nth xs i)&&E4 (nth xs i) t.q7.length&& !(O1 (nth t.q7 (nth xs i).toNat).space []&&O1 (nth t.q7 (nth xs i).toNat).refs []))=false:=by
    rcases hS:(O1 (nth t.q7 (nth xs i).toNat).space []&&O1 (nth t.q7 (nth xs i).toNat).refs []) with _|_
    .simp [hS,q8,u0,s6] at h3 ⊢
     by_cases h0:i=0
     .simp [h0] at hp h3 ⊢;omega
     .simp [h0] at hp;omega
    .simp
   rw [hi,aq,h5];simp [j3]
  .refine gr ?_
   have h5:E4 p (nth xs i)=true/\E4 (nth xs i) t.q7.length=true/\(O1 (nth t.q7 (nth xs i).toNat).space []&&O1 (nth t.q7 (nth xs i).toNat).refs [])=false:=by
    simp only [G8] at h3;refine ⟨?_,?_,h3.2⟩
    .simp [q8,u0,s6] at h3 ⊢
     by_cases h0:i=0
     .simp [h0] at hp h3 ⊢;omega
     .simp [h0] at hp;omega
    .simp [q8,u0,s6] at h3 ⊢
     omega
   refine ⟨k - 1,by omega,i+1,_,_,nth xs i,rfl,rfl,by omega,by simp,?_,?_⟩
   .have:=A6 h5.1;omega
   .rw [hi,aq,h5.1,h5.2.1,h5.2.2]
    simp
 .refine gr ?_
  have h2:=A3 h1;rw [l6 (by omega)] at hi;exact ⟨_,rfl,by simp [hi,aq,j3]⟩
def dw (c:r9)(n i:Nat):Int :=
 if !L3 (nth (nth c.j9 n).q7 i).name||(!O1 (nth (nth c.j9 n).q7 i).space []&& !L3 (nth (nth c.j9 n).q7 i).space) then 3
 else if ((nth c.j9 n).q7.take i).any fun y=>O1 y.name (nth (nth c.j9 n).q7 i).name then 4
 else if !O1 (nth (nth c.j9 n).q7 i).refs []&&E4 (gn c (nth (nth c.j9 n).q7 i).refs n) 0 then 7
 else if (!s9 (nth (nth c.j9 n).q7 i).type 1&& !s9 (nth (nth c.j9 n).q7 i).type 2)||(bV 0 (gn c (nth (nth c.j9 n).q7 i).refs n)&& !O1 (nth (nth c.j9 n).q7 i).refs []&& !s9 (nth (nth c.j9 (gn c (nth (nth c.j9 n).q7 i).refs n).toNat).q7 0).type (nth (nth c.j9 n).q7 i).type) then 5
 else if (!O1 (nth (nth c.j9 n).q7 i).space []&& !O1 (nth (nth c.j9 n).q7 i).refs [])|| !aq (nth c.j9 n) (-1) (nth (nth c.j9 n).q7 i).J8|| !q8 (nth (nth c.j9 n).q7 i).iZ 0 1||(s9 (nth (nth c.j9 n).q7 i).J8.length 0&&(!s9 (nth (nth c.j9 n).q7 i).iZ 0|| !s9 (nth (nth c.j9 n).q7 i).nK 0)) then 1
 else if !q8 (nth (nth c.j9 n).q7 i).nK 0 1048576||(!s9 (nth c.j9 n).bW 0&&E4 (nth c.j9 n).bW (nth (nth c.j9 n).q7 i).nK)||(s9 i 0&&E4 0 (nth (nth c.j9 n).q7 i).J8.length&& !s9 (nth c.j9 n).erase 1) then 1
 else if (!O1 (nth (nth c.j9 n).q7 i).refs []&&E4 0 (nth (nth c.j9 (gn c (nth (nth c.j9 n).q7 i).refs n).toNat).q7 0).J8.length)&& !hasB (nth (nth c.j9 n).q7 i).J8 i then 1
 else 0
theorem gH (name:K4):∀ (l:List K4) (i:Nat),I9 name l i= -1\/((i:Int)<=I9 name l i/\I9 name l i<i+l.length)
 |[],i=>Or.inl rfl
 |x::r,i=>by
  simp only [I9];split
  .simp;omega
  .rcases gH name r (i+1) with h|h
   .exact Or.inl h
   .simp;omega
def Oz (c:r9)(name:K4)(n:Nat):gn c name n= -1\/(0<=gn c name n/\gn c name n<n/\gn c name n<c.j9.length):=by
 unfold gn F1
 rcases gH name ((r9.sn c).take (min n c.j9.length)) 0 with h|h
 .exact Or.inl h
 .simp at h
  omega
set_option maxHeartbeats 8000000 in
def bE4 (c:r9)(n i:Nat)(hf:c.oB)(hn:n<c.j9.length)(hi:i<(nth c.j9 n).q7.length)(hl:(nth c.j9 n).q7.length<=1000)(ho:(nth (nth c.j9 n).q7 i).J8.length<=1000)(hp:∀ m,m<n->0<(nth c.j9 m).q7.length):Pf A 199 [cat c,.d (num n),.d (num i)] (.d (num (dw c n i))):=by
 have hn2:n<=1000:=by obtain ⟨f0,_⟩:=hf;omega
 have hb:gn c (nth (nth c.j9 n).q7 i).refs n= -1\/(0<=gn c (nth (nth c.j9 n).q7 i).refs n/\gn c (nth (nth c.j9 n).q7 i).refs n<n/\gn c (nth (nth c.j9 n).q7 i).refs n<c.j9.length/\0<(nth c.j9 (gn c (nth (nth c.j9 n).q7 i).refs n).toNat).q7.length):=by
  rcases Oz c (nth (nth c.j9 n).q7 i).refs n with h|h
  .exact Or.inl h
  .exact Or.inr ⟨h.1,h.2.1,h.2.2,hp _ (by omega)⟩
 refine Pf.run [cat c,.d (num n),.d (num i),.any,.any,.any,.any,.any,.any] rfl rfl rfl rfl ?_;refine gr ?_;refine tB (!L3 (nth (nth c.j9 n).q7 i).name||(!O1 (nth (nth c.j9 n).q7 i).space []&& !L3 (nth (nth c.j9 n).q7 i).space)) ?_ (fun h1=> ?_) (fun h1=> ?_)
 .repeat' (first|refine cl (aD9 _) ?_|refine gx ?_|refine fk (h1:=fun hw=> ?_) (h2:=fun hw=> ?_)|refine U1 (h1:=fun hw=> ?_) (h2:=fun hw=> ?_)|refine ⟨rfl,rfl,_,rfl,?_⟩|refine ⟨rfl,rfl⟩|fail)
  all_goals exact cc
 .refine gr ?_
  exact ⟨_,rfl,by simp only [j3,num,dw,h1,j4,if_true,if_false]⟩
 refine gr ?_;refine Ex.I7 (fun k T H=>∃ (j:Nat) (v w z:c8),T=[v,.d (num n),.d (num i),.ptr 0 0,w,.ptr 1 0,.ptr 2 0,.d (num j),z]/\H=[.cells (c.enc.map .d),.cells ((nth c.j9 n).enc.map .d),.cells ((nth (nth c.j9 n).q7 i).enc.map .d)]/\j+k=i/\(((nth c.j9 n).q7.take i).any fun y=>O1 y.name (nth (nth c.j9 n).q7 i).name)=((((nth c.j9 n).q7.take i).drop j).any fun y=>O1 y.name (nth (nth c.j9 n).q7 i).name)) (by rintro _ _ _ ⟨_,_,_,_,_,rfl,_⟩;rfl) ?_ (k:=i) ⟨0,_,_,_,rfl,rfl,by simp,by simp⟩;rintro k _ _ ⟨j,v,w,z,rfl,rfl,hk,hj⟩;refine Ex.nT ?_;refine Ex.seq ?_;refine tb (E4 j i) (fun h8=> ?_) (fun h8=> ?_)
 .have h9:=A6 h8
  rw [lQ (by omega) (by omega)] at hj
  repeat' (first|refine gx ?_|refine Ex.M8 ?_|refine Ex.N6 ?_|refine Ex.cond rfl (fun ht=> ?_) (fun ht=> ?_)|refine Ex.test (Rn.text ?_)|refine Ex.test (Rn.draw ?_)|refine ⟨_,rfl,fun ht=> ?_,fun ht=> ?_⟩|refine ⟨_,rfl,?_⟩|fail)
  .have h2:(((nth c.j9 n).q7.take i).any fun y=>O1 y.name (nth (nth c.j9 n).q7 i).name)=true:=by rw [hj];simp [ht]
   simp only [j3,num,dw,h1,h2,j4,if_true,if_false]
  .exact ⟨k - 1,by omega,j+1,_,_,_,rfl,rfl,by omega,by rw [hj];simp [ht]⟩
 have h9:=A3 h8;rw [l6 (by simp;omega)] at hj;have h2:(((nth c.j9 n).q7.take i).any fun y=>O1 y.name (nth (nth c.j9 n).q7 i).name)=false:=by rw [hj];rfl
 clear hj h8 hk
 repeat' (first|refine cl (WW c (nth (nth c.j9 n).q7 i).refs n hf (by omega)) ?_|refine gx ?_|fail)
 refine tb (!O1 (nth (nth c.j9 n).q7 i).refs []&&E4 (gn c (nth (nth c.j9 n).q7 i).refs n) 0) (fun h3=> ?_) (fun h3=> ?_)
 .refine gr ?_
  exact ⟨_,rfl,by simp only [j3,num,dw,h1,h2,h3,j4,if_true,if_false]⟩
 have h3' :(!O1 (nth (nth c.j9 n).q7 i).refs [])=true->0<=gn c (nth (nth c.j9 n).q7 i).refs n:=fun h=>by
  simp only [h,Bool.true_and] at h3;exact A3 h3
 have h3q:(!O1 (nth (nth c.j9 n).q7 i).refs [])=true->0<(nth c.j9 (gn c (nth (nth c.j9 n).q7 i).refs n).toNat).q7.length:=fun h=>by have:=h3' h;omega
 refine tb ((!s9 (nth (nth c.j9 n).q7 i).type 1&& !s9 (nth (nth c.j9 n).q7 i).type 2)||(bV 0 (gn c (nth (nth c.j9 n).q7 i).refs n)&& !O1 (nth (nth c.j9 n).q7 i).refs []&& !s9 (nth (nth c.j9 (gn c (nth (nth c.j9 n).q7 i).refs n).toNat).q7 0).type (nth (nth c.j9 n).q7 i).type)) (fun h4=> ?_) (fun h4=> ?_)
 .refine gr ?_
  exact ⟨_,rfl,by simp only [j3,num,dw,h1,h2,h3,h4,j4,if_true,if_false]⟩
 refine tB ((!O1 (nth (nth c.j9 n).q7 i).space []&& !O1 (nth (nth c.j9 n).q7 i).refs [])|| !aq (nth c.j9 n) (-1) (nth (nth c.j9 n).q7 i).J8|| !q8 (nth (nth c.j9 n).q7 i).iZ 0 1||(s9 (nth (nth c.j9 n).q7 i).J8.length 0&&(!s9 (nth (nth c.j9 n).q7 i).iZ 0|| !s9 (nth (nth c.j9 n).q7 i).nK 0))) ?_ (fun h5=> ?_) (fun h5=> ?_)
 .repeat' (first|refine cl (aX6 (nth c.j9 n) (nth (nth c.j9 n).q7 i).J8 ho hl) ?_|refine cl (tG _ _ _) ?_|refine gx ?_|refine fk (h1:=fun hw=> ?_) (h2:=fun hw=> ?_)|refine U1 (h1:=fun hw=> ?_) (h2:=fun hw=> ?_)|refine ⟨rfl,rfl,_,rfl,?_⟩|refine ⟨rfl,rfl⟩|fail)
  all_goals exact cc
 .refine gr ?_
  exact ⟨_,rfl,by simp only [j3,num,dw,h1,h2,h3,h4,h5,j4,if_true,if_false]⟩
 refine tB (!q8 (nth (nth c.j9 n).q7 i).nK 0 1048576||(!s9 (nth c.j9 n).bW 0&&E4 (nth c.j9 n).bW (nth (nth c.j9 n).q7 i).nK)||(s9 i 0&&E4 0 (nth (nth c.j9 n).q7 i).J8.length&& !s9 (nth c.j9 n).erase 1)) ?_ (fun h6=> ?_) (fun h6=> ?_)
 .repeat' (first|refine cl (tG _ _ _) ?_|refine gx ?_|refine fk (h1:=fun hw=> ?_) (h2:=fun hw=> ?_)|refine U1 (h1:=fun hw=> ?_) (h2:=fun hw=> ?_)|refine ⟨rfl,rfl,_,rfl,?_⟩|refine ⟨rfl,rfl⟩|fail)
  all_goals exact cc
 .refine gr ?_
  exact ⟨_,rfl,by simp only [j3,num,dw,h1,h2,h3,h4,h5,h6,j4,if_true,if_false]⟩
 refine tB ((!O1 (nth (nth c.j9 n).q7 i).refs []&&E4 0 (nth (nth c.j9 (gn c (nth (nth c.j9 n).q7 i).refs n).toNat).q7 0).J8.length)&& !hasB (nth (nth c.j9 n).q7 i).J8 i) ?_ (fun h7=> ?_) (fun h7=> ?_)
 .repeat' (first|refine cl (bE1 (nth (nth c.j9 n).q7 i).J8 i ho) ?_|refine ixZ (hi:=⟨h3' hw,by omega⟩) (h2:= ?_)|refine ixN (hi:=h3q hw) (h2:= ?_)|refine gx ?_|refine fk (h1:=fun hw=> ?_) (h2:=fun hw=> ?_)|refine U1 (h1:=fun hw=> ?_) (h2:=fun hw=> ?_)|refine ⟨rfl,rfl,_,rfl,?_⟩|refine ⟨rfl,rfl⟩|fail)
  all_goals exact cc
 .refine gr ?_
  exact ⟨_,rfl,by simp only [j3,num,dw,h1,h2,h3,h4,h5,h6,h7,j4,if_true,if_false]⟩
 refine gr ?_;exact ⟨_,rfl,by simp only [j3,num,dw,h1,h2,h3,h4,h5,h6,h7,j4,if_true,if_false]⟩
def gZ (c:r9)(n:Nat):Nat->Nat->Int
 |0,_=>0
 |k+1,i=>if !s9 (dw c n i) 0 then dw c n i else gZ c n k (i+1)
def gN (c:r9)(n:Nat):Int :=
 if !q8 (nth c.j9 n).q7.length 1 8|| !q8 (nth c.j9 n).erase 0 1|| !q8 (nth c.j9 n).bW 0 1048576 then 1 else gZ c n (nth c.j9 n).q7.length 0
structure r9.small (c:r9):Prop where
 oB:c.oB
 q7:∀ n,n<c.j9.length->(nth c.j9 n).q7.length<=1000
 J8:∀ n i,n<c.j9.length->i<(nth c.j9 n).q7.length->(nth (nth c.j9 n).q7 i).J8.length<=1000
def bD6 (c:r9)(n:Nat)(hf:r9.small c)(hn:n<c.j9.length)(hp:∀ m,m<n->0<(nth c.j9 m).q7.length):Pf A 144 [cat c,.d (num n)] (.d (num (gN c n))):=by
 have hl:=hf.q7 n hn;refine Pf.run [cat c,.d (num n),.any,.any,.any,.any,.any] rfl rfl rfl rfl ?_;refine gr ?_;refine tB (!q8 (nth c.j9 n).q7.length 1 8|| !q8 (nth c.j9 n).erase 0 1|| !q8 (nth c.j9 n).bW 0 1048576) ?_ (fun h1=> ?_) (fun h1=> ?_)
 .repeat' (first|refine cl (tG _ _ _) ?_|refine gx ?_|refine fk (h1:=fun hw=> ?_) (h2:=fun hw=> ?_)|refine U1 (h1:=fun hw=> ?_) (h2:=fun hw=> ?_)|refine ⟨rfl,rfl,_,rfl,?_⟩|refine ⟨rfl,rfl⟩|fail)
  all_goals exact cc
 .refine gr ?_
  exact ⟨_,rfl,by simp only [j3,num,gN,h1,if_true]⟩
 refine gr ?_;refine Ex.I7 (fun k T H=>∃ (i:Nat) (v w z:c8),T=[v,.d (num n),.ptr 0 0,w,.ptr 1 0,.d (num i),z]/\H=[.cells (c.enc.map .d),.cells ((nth c.j9 n).enc.map .d)]/\i+k=(nth c.j9 n).q7.length/\gN c n=gZ c n k i) (by rintro _ _ _ ⟨_,_,_,_,_,rfl,_⟩;rfl) ?_ (k:=(nth c.j9 n).q7.length) ⟨0,_,_,_,rfl,rfl,by simp,by simp only [gN,h1,j4,if_false]⟩;rintro k _ _ ⟨i,v,w,z,rfl,rfl,hk,hi⟩;refine Ex.nT ?_;refine Ex.seq ?_;refine tb (E4 i (nth c.j9 n).q7.length) (fun h2=> ?_) (fun h2=> ?_)
 .have h3:=A6 h2
  obtain ⟨k,rfl⟩:∃ k',k=k' +1:=⟨k - 1,by omega⟩
  repeat' (first|refine cl (bE4 c n i hf.oB hn (by omega) hl (hf.J8 n i hn (by omega)) hp) ?_|refine gx ?_|refine Ex.M8 ?_|refine Ex.N6 ?_|refine Ex.cond rfl (fun ht=> ?_) (fun ht=> ?_)|refine Ex.test (Rn.text ?_)|refine Ex.test (Rn.draw ?_)|refine ⟨_,rfl,fun ht=> ?_,fun ht=> ?_⟩|refine ⟨_,rfl,?_⟩|fail)
  .simp [j3,hi,gZ,ht]
  .exact ⟨k,by omega,i+1,_,_,_,rfl,rfl,by omega,by simp [hi,gZ,ht]⟩
 .have h3:=A3 h2
  obtain rfl:k=0:=by omega
  refine gr ?_;exact ⟨_,rfl,by simp [j3,hi,gZ,num]⟩
def lM (v:Vw):Bool:=(!O1 v.right []||s9 v.on.length 0)&&bV v.on.length 8&&bV (v.items.length+v.D5.length) 8
def bC (v:Vw):Bool :=
 if s9 v.kind 2 then !O1 v.right []&&s9 v.on.length 0&&s9 v.wh.length 0&&s9 v.items.length 0&&s9 v.D5.length 0&& !v.distinct
 else if s9 v.kind 0 then !(s9 v.items.length 0||E4 0 v.D5.length)&&lM v
 else !(s9 v.D5.length 0||v.distinct)&&lM v
def vw (v:Vw):c8:= .agg (v.enc.map .d)
set_option maxHeartbeats 8000000 in
def bE5 (c:r9)(v:Vw)(h0:v.items.length<=1000)(h1:v.D5.length<=1000):Pf A 200 [cat c,vw v] (.d (.bool (bC v))):=by
 refine Pf.run [cat c,vw v,.any,.any,.any] rfl rfl rfl rfl ?_
 repeat' (first|refine gx ?_|refine fk (h1:=fun hw=> ?_) (h2:=fun hw=> ?_)|refine U1 (h1:=fun hw=> ?_) (h2:=fun hw=> ?_)|refine Ex.M8 ?_|refine Ex.N6 ?_|refine Ex.cond rfl (fun ht=> ?_) (fun ht=> ?_)|refine Ex.test (Rn.text ?_)|refine Ex.test (Rn.draw ?_)|refine ⟨_,rfl,fun ht=> ?_,fun ht=> ?_⟩|refine ⟨_,rfl,?_⟩|fail)
 all_goals first|(simp [*,j3,bC,lM];done)|(simp_all [j3,bC,lM];done)|(simp_all [j3,bC,lM,u0,s6,o8,E5];done)|(simp_all [j3,bC,lM,u0,s6,o8,E5]<;>omega)
def P3 (l r:List Int):List (Int×Int)->Int
 |[]=>0
 |p::ps=>if !q8 p.1 0 (l.length - 1)|| !q8 p.2 0 (r.length - 1) then 3 else if !s9 (nth l p.1.toNat) (nth r p.2.toNat) then 5 else P3 l r ps
def bE7 (on:List (Int×Int))(l r:List Int)(h0:on.length<=1000)(h1:l.length<=100000)(h2:r.length<=100000):Pf A 202 [.d (B0 (fun p=>[num p.1,num p.2]) on),.d (ints l),.d (ints r)] (.d (num (P3 l r on))):=by
 refine Pf.run [.d (B0 (fun p=>[num p.1,num p.2]) on),.d (ints l),.d (ints r),.any,.any] rfl rfl rfl rfl ?_;refine gr ?_;refine Ex.I7 (fun k T H=>∃ (i:Nat) (v:c8),T=[.d (B0 (fun p=>[num p.1,num p.2]) on),.d (ints l),.d (ints r),v,.d (num i)]/\H=[]/\i+k=on.length/\P3 l r on=P3 l r (on.drop i)) (by rintro _ _ _ ⟨_,_,_,rfl,_⟩;rfl) ?_ (k:=on.length) ⟨0,_,rfl,rfl,by simp,by simp⟩;rintro k _ _ ⟨i,v,rfl,rfl,hk,hi⟩;refine Ex.nT ?_;refine Ex.seq ?_;refine tb (E4 i on.length) (fun h3=> ?_) (fun h3=> ?_)
 .have h4:=A6 h3
  rw [D3 (by omega)] at hi;refine gr ?_;refine tB (!q8 (nth on i).1 0 (l.length - 1)|| !q8 (nth on i).2 0 (r.length - 1)) ?_ (fun h5=> ?_) (fun h5=> ?_)
  .repeat' (first|refine cl (tG _ _ _) ?_|refine gx ?_|refine fk (h1:=fun hw=> ?_) (h2:=fun hw=> ?_)|refine U1 (h1:=fun hw=> ?_) (h2:=fun hw=> ?_)|refine ⟨rfl,rfl,_,rfl,?_⟩|refine ⟨rfl,rfl⟩|fail)
   all_goals exact cc
  .refine gr ?_
   exact ⟨_,rfl,by simp only [j3,num,hi,P3,h5,if_true]⟩
  have h6:=h5;simp [q8,s6] at h6
  repeat' (first|refine gx ?_|refine Ex.M8 ?_|refine Ex.N6 ?_|refine Ex.cond rfl (fun ht=> ?_) (fun ht=> ?_)|refine Ex.test (Rn.text ?_)|refine Ex.test (Rn.draw ?_)|refine ⟨_,rfl,fun ht=> ?_,fun ht=> ?_⟩|refine ⟨_,rfl,?_⟩|fail)
  .simp only [j3,num,hi,P3,h5,ht,j4,if_true,if_false]
  .exact ⟨k - 1,by omega,i+1,_,rfl,rfl,by omega,by simp only [hi,P3,h5,ht,j4,if_false]⟩
 .have h4:=A3 h3
  rw [l6 (by omega)] at hi;refine gr ?_;exact ⟨_,rfl,by simp [j3,hi,P3,num]⟩
end Go.Proofs.YtibjocmpkoepoaaGreat

