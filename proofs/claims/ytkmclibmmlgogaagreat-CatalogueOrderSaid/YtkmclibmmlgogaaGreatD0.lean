/- Texts D1 D2 D3 (made short by a program) -/
import Derived.Test.YtkmclibmmlgogaaGreatAbt
set_option linter.unusedVariables false
set_option linter.unusedSimpArgs false
open Bool renaming not_eq_false' → B4, not_eq_true' → j9
open List renaming drop_of_length_le → m7, take_of_length_le → s6
namespace Go.Proofs.YtkmclibmmlgogaaGreat
open Go.u7 Go.u7.S
attribute [local irreducible] Rx Ry Rn Ex Pf
def aJ (n:Int):Bool:=X4 97 n&&X4 n 122
def ir (n:Int):Bool:=X4 48 n&&X4 n 57
def jN (n:Int):Bool:=aJ n||ir n||o8 n 95
def D3:C7->Bool
 |[]=>false
 |c::r=>C2 r.length 16&&aJ c.toNat&&(c::r).all fun c=>jN c.toNat
theorem YQ (n:Int):Pf A 93 [.d (.int .u8 n)] (.d (.bool (aJ n))):=by
 refine Pf.run [.d (.int .u8 n),.any] rfl rfl rfl rfl ?_
 repeat' (first|refine gx ?_|refine fk (h1:=fun hw=> ?_) (h2:=fun hw=> ?_)|refine M8 (h1:=fun hw=> ?_) (h2:=fun hw=> ?_)|refine Ex.J6 ?_|refine Ex.J8 ?_|refine Ex.cond rfl (fun ht=> ?_) (fun ht=> ?_)|refine Ex.test (Rn.text ?_)|refine Ex.test (Rn.draw ?_)|refine ⟨_,rfl,fun ht=> ?_,fun ht=> ?_⟩|refine ⟨_,rfl,?_⟩|fail)
 all_goals simp_all [b9,aJ]
theorem Yt (n:Int):Pf A 142 [.d (.int .u8 n)] (.d (.bool (ir n))):=by
 refine Pf.run [.d (.int .u8 n),.any] rfl rfl rfl rfl ?_
 repeat' (first|refine gx ?_|refine fk (h1:=fun hw=> ?_) (h2:=fun hw=> ?_)|refine M8 (h1:=fun hw=> ?_) (h2:=fun hw=> ?_)|refine Ex.J6 ?_|refine Ex.J8 ?_|refine Ex.cond rfl (fun ht=> ?_) (fun ht=> ?_)|refine Ex.test (Rn.text ?_)|refine Ex.test (Rn.draw ?_)|refine ⟨_,rfl,fun ht=> ?_,fun ht=> ?_⟩|refine ⟨_,rfl,?_⟩|fail)
 all_goals simp_all [b9,ir]
theorem at6 (n:Int):Pf A 94 [.d (.int .u8 n)] (.d (.bool (jN n))):=by
 refine Pf.run [.d (.int .u8 n),.any] rfl rfl rfl rfl ?_
 repeat' (first|refine cl (YQ _) ?_|refine cl (Yt _) ?_|refine gx ?_|refine fk (h1:=fun hw=> ?_) (h2:=fun hw=> ?_)|refine M8 (h1:=fun hw=> ?_) (h2:=fun hw=> ?_)|refine Ex.J6 ?_|refine Ex.J8 ?_|refine Ex.cond rfl (fun ht=> ?_) (fun ht=> ?_)|refine Ex.test (Rn.text ?_)|refine Ex.test (Rn.draw ?_)|refine ⟨_,rfl,fun ht=> ?_,fun ht=> ?_⟩|refine ⟨_,rfl,?_⟩|fail)
 all_goals simp_all [b9,jN]
theorem Ut (s:C7):Pf A 64 [.d (.str s)] (.d (.bool (D3 s))):=by
 refine Pf.run [.d (.str s),.any,.any] rfl rfl rfl rfl ?_;refine gr ?_;refine Ex.Oj (match s with|[]=>true|c::r=> !(C2 r.length 16&&aJ c.toNat)) (Rn.text ?_) (fun ht=> ?_) (fun ht=> ?_)
 ·repeat' (first|refine cl (YQ _) ?_|refine gx ?_|refine fk (h1:=fun hw=> ?_) (h2:=fun hw=> ?_)|refine M8 (h1:=fun hw=> ?_) (h2:=fun hw=> ?_)|refine ⟨rfl,rfl,_,rfl,?_⟩|refine ⟨rfl,rfl⟩|fail)
  all_goals cases s
  all_goals first|(simp [*,b9,S7];done)|(simp_all [b9,S7];done)|(simp_all [b9,S7,o9,o5,j5,A3];done)|(simp_all [b9,S7,o9,o5,j5,A3]<;>omega)
 ·refine gr ?_
  refine ⟨_,rfl,?_⟩;cases s with
  |nil=>rfl
  |cons c r =>
   simp only [j9] at ht;simp only [D3,ht,b9,Bool.false_and]
 ·cases s with
  |nil=>cases ht
  |cons c r =>
  have hl:=ht;simp [o9] at hl;have hb:(c::r).length<=16:=by simp;omega
  refine gr ?_;refine Ex.I7 (fun k T H=>∃ (i:Nat) (v:b6),T=[.d (.str (c::r)),v,.d (.int .i64 i)]/\H=[]/\i+k=(c::r).length/\D3 (c::r)=((c::r).drop i).all fun c=>jN c.toNat) (by rintro _ _ _ ⟨_,_,_,rfl,_⟩;rfl) ?_ (k:=(c::r).length) ⟨0,_,rfl,rfl,by simp,by simp [D3,hl,o9]⟩;rintro k _ _ ⟨i,v,rfl,rfl,hk,hi⟩;refine Ex.nT ?_
  repeat' (first|refine cl (at6 _) ?_|refine gx ?_|refine Ex.J6 ?_|refine Ex.J8 ?_|refine Ex.cond rfl (fun ht=> ?_) (fun ht=> ?_)|refine Ex.test (Rn.text ?_)|refine Ex.test (Rn.draw ?_)|refine ⟨_,rfl,fun ht=> ?_,fun ht=> ?_⟩|refine ⟨_,rfl,?_⟩|fail)
  ·simp only [j9] at ht
   simp only [b9];have h1:=z6 ‹_›;rw [hi,A4 (by omega)];simp [ht]
  ·have h1:=z6 ‹_›
   rw [A4 (by omega)] at hi;simp only [B4] at ht;refine ⟨k - 1,by omega,i+1,_,rfl,rfl,by omega,?_⟩;rw [hi];simp [ht]
  ·have h1:=z8 ‹_›
   rw [m7 (by omega)] at hi;simp [hi,b9]
theorem oB (n a b:Int):Pf A 95 [.d (num n),.d (num a),.d (num b)] (.d (.bool (n7 n a b))):=by
 refine Pf.run [.d (num n),.d (num a),.d (num b),.any] rfl rfl rfl rfl ?_
 repeat' (first|refine gx ?_|refine fk (h1:=fun hw=> ?_) (h2:=fun hw=> ?_)|refine M8 (h1:=fun hw=> ?_) (h2:=fun hw=> ?_)|refine Ex.J6 ?_|refine Ex.J8 ?_|refine Ex.cond rfl (fun ht=> ?_) (fun ht=> ?_)|refine Ex.test (Rn.text ?_)|refine Ex.test (Rn.draw ?_)|refine ⟨_,rfl,fun ht=> ?_,fun ht=> ?_⟩|refine ⟨_,rfl,?_⟩|fail)
 all_goals first|(simp [*,b9,n7];done)|(simp_all [b9,n7];done)|(simp_all [b9,n7,o9,o5,j5,A3];done)|(simp_all [b9,n7,o9,o5,j5,A3]<;>omega)
theorem bu (n a b:Int):Pf A 109 [.d (num n),.d (num a),.d (num b)] (.d (.bool (n7 n a b))):=by
 refine Pf.run [.d (num n),.d (num a),.d (num b),.any] rfl rfl rfl rfl ?_
 repeat' (first|refine gx ?_|refine fk (h1:=fun hw=> ?_) (h2:=fun hw=> ?_)|refine M8 (h1:=fun hw=> ?_) (h2:=fun hw=> ?_)|refine Ex.J6 ?_|refine Ex.J8 ?_|refine Ex.cond rfl (fun ht=> ?_) (fun ht=> ?_)|refine Ex.test (Rn.text ?_)|refine Ex.test (Rn.draw ?_)|refine ⟨_,rfl,fun ht=> ?_,fun ht=> ?_⟩|refine ⟨_,rfl,?_⟩|fail)
 all_goals first|(simp [*,b9,n7];done)|(simp_all [b9,n7];done)|(simp_all [b9,n7,o9,o5,j5,A3];done)|(simp_all [b9,n7,o9,o5,j5,A3]<;>omega)
theorem Ss (n:Int):Pf A 149 [.d (num n)] (.d (.bool (o8 n 1||o8 n 2))):=by
 refine Pf.run [.d (num n),.any] rfl rfl rfl rfl ?_
 repeat' (first|refine gx ?_|refine fk (h1:=fun hw=> ?_) (h2:=fun hw=> ?_)|refine M8 (h1:=fun hw=> ?_) (h2:=fun hw=> ?_)|refine Ex.J6 ?_|refine Ex.J8 ?_|refine Ex.cond rfl (fun ht=> ?_) (fun ht=> ?_)|refine Ex.test (Rn.text ?_)|refine Ex.test (Rn.draw ?_)|refine ⟨_,rfl,fun ht=> ?_,fun ht=> ?_⟩|refine ⟨_,rfl,?_⟩|fail)
 all_goals exact cc
def ints (l:List Int):u7.Data:=y7 (fun n=>[num n]) l
def hasB (l:List Int)(n:Int):Bool:=l.any fun x=>o8 x n
theorem at5 (xs:List Int)(n:Int)(hx:xs.length<=1000):Pf A 89 [.d (ints xs),.d (num n)] (.d (.bool (hasB xs n))):=by
 refine Pf.run [.d (ints xs),.d (num n),.any,.any] rfl rfl rfl rfl ?_;refine gr ?_;refine Ex.I7 (fun k T H=>∃ (i:Nat) (v:b6),T=[.d (ints xs),.d (num n),v,.d (num i)]/\H=[]/\i+k=xs.length/\hasB xs n=(xs.drop i).any fun x=>o8 x n) (by rintro _ _ _ ⟨_,_,_,rfl,_⟩;rfl) ?_ (k:=xs.length) ⟨0,_,rfl,rfl,by simp,by simp [hasB]⟩;rintro k _ _ ⟨i,v,rfl,rfl,hk,hi⟩;refine Ex.nT ?_
 repeat' (first|refine gx ?_|refine Ex.J6 ?_|refine Ex.J8 ?_|refine Ex.cond rfl (fun ht=> ?_) (fun ht=> ?_)|refine Ex.test (Rn.text ?_)|refine Ex.test (Rn.draw ?_)|refine ⟨_,rfl,fun ht=> ?_,fun ht=> ?_⟩|refine ⟨_,rfl,?_⟩|fail)
 ·have h1:=z6 ‹C2 i _=true›
  rw [A4 (by omega)] at hi;simp [hi,ht,b9]
 ·have h1:=z6 ‹C2 i _=true›
  rw [A4 (by omega)] at hi;exact ⟨k - 1,by omega,i+1,_,rfl,rfl,by omega,by simp [hi,ht]⟩
 ·have h1:=z8 ht
  rw [m7 (by omega)] at hi;simp [hi,b9]
def cw {α:Type}(eq:α->α->Bool):List α->List α->Bool
 |[],[]=>true
 |a::l,c::m=>eq a c&&cw eq l m
 |_,_=>false
theorem rS {α:Type}{eq:α->α->Bool}:∀ {l m:List α},l.length≠m.length->cw eq l m=false
 |[],[],h=>absurd rfl h
 |[],_::_,_=>rfl
 |_::_,[],_=>rfl
 |a::l,c::m,h=>by simp only [cw,rS (l:=l) (m:=m) (by simpa using h),Bool.and_false]
theorem at9 (xs ys:List Int)(hx:xs.length<=100000):Pf A 98 [.d (ints xs),.d (ints ys)] (.d (.bool (cw o8 xs ys))):=by
 refine Pf.run [.d (ints xs),.d (ints ys),.any,.any] rfl rfl rfl rfl ?_
 repeat' (first|refine gx ?_|refine Ex.J6 ?_|refine Ex.J8 ?_|refine Ex.cond rfl (fun ht=> ?_) (fun ht=> ?_)|refine Ex.test (Rn.text ?_)|refine Ex.test (Rn.draw ?_)|refine ⟨_,rfl,fun ht=> ?_,fun ht=> ?_⟩|refine ⟨_,rfl,?_⟩|fail)
 ·have h1:xs.length≠ys.length:=by simp [j5] at ht;omega
  simp [rS h1,b9]
 have hl:xs.length=ys.length:=by simp [j5] at ht;omega
 refine Ex.I7 (fun k T H=>∃ (i:Nat) (v:b6),T=[.d (ints xs),.d (ints ys),v,.d (num i)]/\H=[]/\i+k=xs.length/\cw o8 xs ys=cw o8 (xs.drop i) (ys.drop i)) (by rintro _ _ _ ⟨_,_,_,rfl,_⟩;rfl) ?_ (k:=xs.length) ⟨0,_,rfl,rfl,by simp,by simp⟩;rintro k _ _ ⟨i,v,rfl,rfl,hk,hi⟩;refine Ex.nT ?_
 repeat' (first|refine gx ?_|refine Ex.J6 ?_|refine Ex.J8 ?_|refine Ex.cond rfl (fun ht=> ?_) (fun ht=> ?_)|refine Ex.test (Rn.text ?_)|refine Ex.test (Rn.draw ?_)|refine ⟨_,rfl,fun ht=> ?_,fun ht=> ?_⟩|refine ⟨_,rfl,?_⟩|fail)
 ·have h1:=z6 ‹C2 i _=true›
  rw [A4 (by omega),A4 (l:=ys) (by omega)] at hi;simp only [j9] at ht;simp [hi,cw,ht,b9]
 ·have h1:=z6 ‹C2 i _=true›
  rw [A4 (by omega),A4 (l:=ys) (by omega)] at hi;simp only [B4] at ht;exact ⟨k - 1,by omega,i+1,_,rfl,rfl,by omega,by simp [hi,cw,ht]⟩
 ·have h1:=z8 ht
  rw [m7 (by omega),m7 (by omega)] at hi;simp [hi,cw,b9]
theorem Sp (xs ys:List Int)(hx:xs.length<=100000):Pf A 117 [.d (ints xs),.d (ints ys)] (.d (.bool (cw o8 xs ys))):=by
 refine Pf.run [.d (ints xs),.d (ints ys),.any,.any,.any,.any] rfl rfl rfl rfl ?_
 repeat' (first|refine gx ?_|refine Ex.J6 ?_|refine Ex.J8 ?_|refine Ex.cond rfl (fun ht=> ?_) (fun ht=> ?_)|refine Ex.test (Rn.text ?_)|refine Ex.test (Rn.draw ?_)|refine ⟨_,rfl,fun ht=> ?_,fun ht=> ?_⟩|refine ⟨_,rfl,?_⟩|fail)
 ·have h1:xs.length≠ys.length:=by simp [j5] at ht;omega
  simp [rS h1,b9]
 have hl:xs.length=ys.length:=by simp [j5] at ht;omega
 refine Ex.I7 (fun k T H=>∃ (i:Nat) (v w:b6),T=[.d (ints xs),.d (ints ys),v,w,.d (num xs.length),.d (num i)]/\H=[]/\i+k=xs.length/\cw o8 xs ys=cw o8 (xs.drop i) (ys.drop i)) (by rintro _ _ _ ⟨_,_,_,_,rfl,_⟩;rfl) ?_ (k:=xs.length) ⟨0,_,_,rfl,rfl,by simp,by simp⟩;rintro k _ _ ⟨i,v,w,rfl,rfl,hk,hi⟩;refine Ex.nT ?_
 repeat' (first|refine gx ?_|refine Ex.J6 ?_|refine Ex.J8 ?_|refine Ex.cond rfl (fun ht=> ?_) (fun ht=> ?_)|refine Ex.test (Rn.text ?_)|refine Ex.test (Rn.draw ?_)|refine ⟨_,rfl,fun ht=> ?_,fun ht=> ?_⟩|refine ⟨_,rfl,?_⟩|fail)
 ·have h1:=z6 ‹C2 i _=true›
  rw [A4 (by omega),A4 (l:=ys) (by omega)] at hi;simp only [j9] at ht;simp [hi,cw,ht,b9]
 ·have h1:=z6 ‹C2 i _=true›
  rw [A4 (by omega),A4 (l:=ys) (by omega)] at hi;simp only [B4] at ht;exact ⟨k - 1,by omega,i+1,_,_,rfl,rfl,by omega,by simp [hi,cw,ht]⟩
 ·have h1:=z8 ht
  rw [m7 (by omega),m7 (by omega)] at hi;simp [hi,cw,b9]
def encS (s:C7):List u7.Data:=[.str s]
set_option maxHeartbeats 4000000 in
theorem YP (c:m9)(hf:c.fI):Pf A 63 [cat c] (.d (y7 encS c.names)):=by
 obtain ⟨f0,f1,f2,f3,f4,f5,f6,f7⟩:=hf;refine Pf.run [cat c,.any,.any,.any,.any,.any,.any,.any,.any,.any,.any,.any] rfl rfl rfl rfl ?_;refine gr ?_;refine Ex.I7 (fun k T H=>∃ (i:Nat) (acc:List C7) (v0 v2 w5 w6 w7 w8 w9 gm ep:b6),T=[v0,.ptr 0 0,v2,A5 1 encS acc,.d (num i),w5,w6,w7,w8,w9,gm,ep]/\H=[.cells (c.enc.map .d)]/\i+k=c.j3.length/\acc=([]:List C7)++(c.j3.take i).map er.name) (by rintro _ _ _ ⟨_,_,_,_,_,_,_,_,_,_,_,_,rfl,_⟩;rfl) ?_ (k:=c.j3.length) ⟨0,([]:List C7),_,_,_,_,_,_,_,_,_,rfl,rfl,by simp,by simp⟩;rintro k _ _ ⟨i,acc,v0,v2,w5,w6,w7,w8,w9,gm,ep,rfl,rfl,hk,hacc⟩;have hl:acc.length=0+i:=by rw [hacc];simp;omega
 refine Ex.nT ?_
 repeat' (first|refine gx ?_|refine Ex.J6 ?_|refine Ex.J8 ?_|refine Ex.cond rfl (fun ht=> ?_) (fun ht=> ?_)|refine Ex.test (Rn.text ?_)|refine Ex.test (Rn.draw ?_)|refine ⟨_,rfl,fun ht=> ?_,fun ht=> ?_⟩|refine ⟨_,rfl,?_⟩|fail)
 ·have h1:=z6 ht
  refine ⟨k - 1,by omega,i+1,acc++[(nth c.j3 i).name],_,_,_,_,_,_,_,_,_,rfl,rfl,by omega,?_⟩;rw [I6 (by omega),hacc];simp
 have h1:=z8 ht;rw [s6 (by omega)] at hacc;clear ht h1 hk hl;subst hacc;refine Ex.I7 (fun k T H=>∃ (i:Nat) (acc:List C7) (v0 v2 w4 w6 w7 w8 w9 gm ep:b6),T=[v0,.ptr 0 0,v2,A5 1 encS acc,w4,.d (num i),w6,w7,w8,w9,gm,ep]/\H=[.cells (c.enc.map .d)]/\i+k=c.views.length/\acc=c.j3.map er.name++(c.views.take i).map Vw.name) (by rintro _ _ _ ⟨_,_,_,_,_,_,_,_,_,_,_,_,rfl,_⟩;rfl) ?_ (k:=c.views.length) ⟨0,c.j3.map er.name,_,_,_,_,_,_,_,_,_,rfl,rfl,by simp,by simp⟩;rintro k _ _ ⟨i,acc,v0,v2,w4,w6,w7,w8,w9,gm,ep,rfl,rfl,hk,hacc⟩;have hl:acc.length=0+c.j3.length+i:=by rw [hacc];simp;omega
 refine Ex.nT ?_
 repeat' (first|refine gx ?_|refine Ex.J6 ?_|refine Ex.J8 ?_|refine Ex.cond rfl (fun ht=> ?_) (fun ht=> ?_)|refine Ex.test (Rn.text ?_)|refine Ex.test (Rn.draw ?_)|refine ⟨_,rfl,fun ht=> ?_,fun ht=> ?_⟩|refine ⟨_,rfl,?_⟩|fail)
 ·have h1:=z6 ht
  refine ⟨k - 1,by omega,i+1,acc++[(nth c.views i).name],_,_,_,_,_,_,_,_,_,rfl,rfl,by omega,?_⟩;rw [I6 (by omega),hacc];simp
 have h1:=z8 ht;rw [s6 (by omega)] at hacc;clear ht h1 hk hl;subst hacc;refine Ex.I7 (fun k T H=>∃ (i:Nat) (acc:List C7) (v0 v2 w4 w5 w7 w8 w9 gm ep:b6),T=[v0,.ptr 0 0,v2,A5 1 encS acc,w4,w5,.d (num i),w7,w8,w9,gm,ep]/\H=[.cells (c.enc.map .d)]/\i+k=c.idxs.length/\acc=c.j3.map er.name++c.views.map Vw.name++(c.idxs.take i).map gD.name) (by rintro _ _ _ ⟨_,_,_,_,_,_,_,_,_,_,_,_,rfl,_⟩;rfl) ?_ (k:=c.idxs.length) ⟨0,c.j3.map er.name++c.views.map Vw.name,_,_,_,_,_,_,_,_,_,rfl,rfl,by simp,by simp⟩;rintro k _ _ ⟨i,acc,v0,v2,w4,w5,w7,w8,w9,gm,ep,rfl,rfl,hk,hacc⟩;have hl:acc.length=0+c.j3.length+c.views.length+i:=by rw [hacc];simp;omega
 refine Ex.nT ?_
 repeat' (first|refine gx ?_|refine Ex.J6 ?_|refine Ex.J8 ?_|refine Ex.cond rfl (fun ht=> ?_) (fun ht=> ?_)|refine Ex.test (Rn.text ?_)|refine Ex.test (Rn.draw ?_)|refine ⟨_,rfl,fun ht=> ?_,fun ht=> ?_⟩|refine ⟨_,rfl,?_⟩|fail)
 ·have h1:=z6 ht
  refine ⟨k - 1,by omega,i+1,acc++[(nth c.idxs i).name],_,_,_,_,_,_,_,_,_,rfl,rfl,by omega,?_⟩;rw [I6 (by omega),hacc];simp
 have h1:=z8 ht;rw [s6 (by omega)] at hacc;clear ht h1 hk hl;subst hacc;refine Ex.I7 (fun k T H=>∃ (i:Nat) (acc:List C7) (v0 v2 w4 w5 w6 w8 w9 gm ep:b6),T=[v0,.ptr 0 0,v2,A5 1 encS acc,w4,w5,w6,.d (num i),w8,w9,gm,ep]/\H=[.cells (c.enc.map .d)]/\i+k=c.D6.length/\acc=c.j3.map er.name++c.views.map Vw.name++c.idxs.map gD.name++(c.D6.take i).map gv.name) (by rintro _ _ _ ⟨_,_,_,_,_,_,_,_,_,_,_,_,rfl,_⟩;rfl) ?_ (k:=c.D6.length) ⟨0,c.j3.map er.name++c.views.map Vw.name++c.idxs.map gD.name,_,_,_,_,_,_,_,_,_,rfl,rfl,by simp,by simp⟩;rintro k _ _ ⟨i,acc,v0,v2,w4,w5,w6,w8,w9,gm,ep,rfl,rfl,hk,hacc⟩;have hl:acc.length=0+c.j3.length+c.views.length+c.idxs.length+i:=by rw [hacc];simp;omega
 refine Ex.nT ?_
 repeat' (first|refine gx ?_|refine Ex.J6 ?_|refine Ex.J8 ?_|refine Ex.cond rfl (fun ht=> ?_) (fun ht=> ?_)|refine Ex.test (Rn.text ?_)|refine Ex.test (Rn.draw ?_)|refine ⟨_,rfl,fun ht=> ?_,fun ht=> ?_⟩|refine ⟨_,rfl,?_⟩|fail)
 ·have h1:=z6 ht
  refine ⟨k - 1,by omega,i+1,acc++[(nth c.D6 i).name],_,_,_,_,_,_,_,_,_,rfl,rfl,by omega,?_⟩;rw [I6 (by omega),hacc];simp
 have h1:=z8 ht;rw [s6 (by omega)] at hacc;clear ht h1 hk hl;subst hacc;refine Ex.I7 (fun k T H=>∃ (i:Nat) (acc:List C7) (v0 v2 w4 w5 w6 w7 w9 gm ep:b6),T=[v0,.ptr 0 0,v2,A5 1 encS acc,w4,w5,w6,w7,.d (num i),w9,gm,ep]/\H=[.cells (c.enc.map .d)]/\i+k=c.E3.length/\acc=c.j3.map er.name++c.views.map Vw.name++c.idxs.map gD.name++c.D6.map gv.name++(c.E3.take i).map jy.name) (by rintro _ _ _ ⟨_,_,_,_,_,_,_,_,_,_,_,_,rfl,_⟩;rfl) ?_ (k:=c.E3.length) ⟨0,c.j3.map er.name++c.views.map Vw.name++c.idxs.map gD.name++c.D6.map gv.name,_,_,_,_,_,_,_,_,_,rfl,rfl,by simp,by simp⟩;rintro k _ _ ⟨i,acc,v0,v2,w4,w5,w6,w7,w9,gm,ep,rfl,rfl,hk,hacc⟩;have hl:acc.length=0+c.j3.length+c.views.length+c.idxs.length+c.D6.length+i:=by rw [hacc];simp;omega
 refine Ex.nT ?_
 repeat' (first|refine gx ?_|refine Ex.J6 ?_|refine Ex.J8 ?_|refine Ex.cond rfl (fun ht=> ?_) (fun ht=> ?_)|refine Ex.test (Rn.text ?_)|refine Ex.test (Rn.draw ?_)|refine ⟨_,rfl,fun ht=> ?_,fun ht=> ?_⟩|refine ⟨_,rfl,?_⟩|fail)
 ·have h1:=z6 ht
  refine ⟨k - 1,by omega,i+1,acc++[(nth c.E3 i).name],_,_,_,_,_,_,_,_,_,rfl,rfl,by omega,?_⟩;rw [I6 (by omega),hacc];simp
 have h1:=z8 ht;rw [s6 (by omega)] at hacc;clear ht h1 hk hl;subst hacc;refine Ex.I7 (fun k T H=>∃ (i:Nat) (acc:List C7) (v0 v2 w4 w5 w6 w7 w8 gm ep:b6),T=[v0,.ptr 0 0,v2,A5 1 encS acc,w4,w5,w6,w7,w8,.d (num i),gm,ep]/\H=[.cells (c.enc.map .d)]/\i+k=c.G9.length/\acc=c.j3.map er.name++c.views.map Vw.name++c.idxs.map gD.name++c.D6.map gv.name++c.E3.map jy.name++(c.G9.take i).map iO.name) (by rintro _ _ _ ⟨_,_,_,_,_,_,_,_,_,_,_,_,rfl,_⟩;rfl) ?_ (k:=c.G9.length) ⟨0,c.j3.map er.name++c.views.map Vw.name++c.idxs.map gD.name++c.D6.map gv.name++c.E3.map jy.name,_,_,_,_,_,_,_,_,_,rfl,rfl,by simp,by simp⟩;rintro k _ _ ⟨i,acc,v0,v2,w4,w5,w6,w7,w8,gm,ep,rfl,rfl,hk,hacc⟩;have hl:acc.length=0+c.j3.length+c.views.length+c.idxs.length+c.D6.length+c.E3.length+i:=by rw [hacc];simp;omega
 refine Ex.nT ?_
 repeat' (first|refine gx ?_|refine Ex.J6 ?_|refine Ex.J8 ?_|refine Ex.cond rfl (fun ht=> ?_) (fun ht=> ?_)|refine Ex.test (Rn.text ?_)|refine Ex.test (Rn.draw ?_)|refine ⟨_,rfl,fun ht=> ?_,fun ht=> ?_⟩|refine ⟨_,rfl,?_⟩|fail)
 ·have h1:=z6 ht
  refine ⟨k - 1,by omega,i+1,acc++[(nth c.G9 i).name],_,_,_,_,_,_,_,_,_,rfl,rfl,by omega,?_⟩;rw [I6 (by omega),hacc];simp
 have h1:=z8 ht;rw [s6 (by omega)] at hacc;clear ht h1 hk hl;subst hacc;refine Ex.I7 (fun k T H=>∃ (i:Nat) (acc:List C7) (v0 v2 w4 w5 w6 w7 w8 w9 ep:b6),T=[v0,.ptr 0 0,v2,A5 1 encS acc,w4,w5,w6,w7,w8,w9,.d (num i),ep]/\H=[.cells (c.enc.map .d)]/\i+k=c.J3.length/\acc=c.j3.map er.name++c.views.map Vw.name++c.idxs.map gD.name++c.D6.map gv.name++c.E3.map jy.name++c.G9.map iO.name++(c.J3.take i).map kI.name) (by rintro _ _ _ ⟨_,_,_,_,_,_,_,_,_,_,_,_,rfl,_⟩;rfl) ?_ (k:=c.J3.length) ⟨0,c.j3.map er.name++c.views.map Vw.name++c.idxs.map gD.name++c.D6.map gv.name++c.E3.map jy.name++c.G9.map iO.name,_,_,_,_,_,_,_,_,_,rfl,rfl,by simp,by simp⟩;rintro k _ _ ⟨i,acc,v0,v2,w4,w5,w6,w7,w8,w9,ep,rfl,rfl,hk,hacc⟩;have hl:acc.length=0+c.j3.length+c.views.length+c.idxs.length+c.D6.length+c.E3.length+c.G9.length+i:=by rw [hacc];simp;omega
 refine Ex.nT ?_
 repeat' (first|refine gx ?_|refine Ex.J6 ?_|refine Ex.J8 ?_|refine Ex.cond rfl (fun ht=> ?_) (fun ht=> ?_)|refine Ex.test (Rn.text ?_)|refine Ex.test (Rn.draw ?_)|refine ⟨_,rfl,fun ht=> ?_,fun ht=> ?_⟩|refine ⟨_,rfl,?_⟩|fail)
 ·have h1:=z6 ht
  refine ⟨k - 1,by omega,i+1,acc++[(nth c.J3 i).name],_,_,_,_,_,_,_,_,_,rfl,rfl,by omega,?_⟩;rw [I6 (by omega),hacc];simp
 have h1:=z8 ht;rw [s6 (by omega)] at hacc;clear ht h1 hk hl;subst hacc;refine Ex.I7 (fun k T H=>∃ (i:Nat) (acc:List C7) (v0 v2 w4 w5 w6 w7 w8 w9 gm:b6),T=[v0,.ptr 0 0,v2,A5 1 encS acc,w4,w5,w6,w7,w8,w9,gm,.d (num i)]/\H=[.cells (c.enc.map .d)]/\i+k=c.K8.length/\acc=c.j3.map er.name++c.views.map Vw.name++c.idxs.map gD.name++c.D6.map gv.name++c.E3.map jy.name++c.G9.map iO.name++c.J3.map kI.name++(c.K8.take i).map kH.name) (by rintro _ _ _ ⟨_,_,_,_,_,_,_,_,_,_,_,_,rfl,_⟩;rfl) ?_ (k:=c.K8.length) ⟨0,c.j3.map er.name++c.views.map Vw.name++c.idxs.map gD.name++c.D6.map gv.name++c.E3.map jy.name++c.G9.map iO.name++c.J3.map kI.name,_,_,_,_,_,_,_,_,_,rfl,rfl,by simp,by simp⟩;rintro k _ _ ⟨i,acc,v0,v2,w4,w5,w6,w7,w8,w9,gm,rfl,rfl,hk,hacc⟩;have hl:acc.length=0+c.j3.length+c.views.length+c.idxs.length+c.D6.length+c.E3.length+c.G9.length+c.J3.length+i:=by rw [hacc];simp;omega
 refine Ex.nT ?_
 repeat' (first|refine gx ?_|refine Ex.J6 ?_|refine Ex.J8 ?_|refine Ex.cond rfl (fun ht=> ?_) (fun ht=> ?_)|refine Ex.test (Rn.text ?_)|refine Ex.test (Rn.draw ?_)|refine ⟨_,rfl,fun ht=> ?_,fun ht=> ?_⟩|refine ⟨_,rfl,?_⟩|fail)
 ·have h1:=z6 ht
  refine ⟨k - 1,by omega,i+1,acc++[(nth c.K8 i).name],_,_,_,_,_,_,_,_,_,rfl,rfl,by omega,?_⟩;rw [I6 (by omega),hacc];simp
 have h1:=z8 ht;rw [s6 (by omega)] at hacc;clear ht h1 hk hl;subst hacc;simp [b9,y7,A5,m9.names]
end Go.Proofs.YtkmclibmmlgogaaGreat

