import Derived.Test.YtibjocmpkoepoaaGreatAbs
set_option linter.all false
open Bool renaming and_eq_true→c7,false_eq_true→j4,not_eq_false'→E4,not_eq_true'→p6,or_eq_false_iff→J3,true→W,false→F
open Int renaming toNat_natCast→J9
open List renaming append_assoc→D3,drop_of_length_le→n9,length_append→n5,mem_cons→B6,take_of_length_le→z7,length→O
open Nat renaming lt_or_ge→A5
open Option renaming some→J,none→K
namespace Go.Proofs.YtibjocmpkoepoaaGreat
open Go.A1 Go.A1.S
attribute [local irreducible] Rx Ry Rn Ex Pf
def dN (n:Int):Bool:=cg 97 n&&cg n 122
def mP (n:Int):Bool:=cg 48 n&&cg n 57
def pI (n:Int):Bool:=dN n||mP n||u7 n 95
def M8:M3->Bool
 |[]=>F
 |c::r=>F6 (O r) 16&&dN c.toNat&&(c::r).all λc=>pI c.toNat
def bx6 (n:Int):Pf A 197 [.d (.int .u8 n)] (.d (.bool (dN n))):=by
 refine Pf.go 1 ?_
 repeat' (first|refine gy ?_|refine fq (λhw=>?_) λhw=>?_|refine ⟨_,rfl,?_⟩|fail)
 all_goals simp_all [j3,dN]
def bv1 (n:Int):Pf A 244 [.d (.int .u8 n)] (.d (.bool (mP n))):=by
 refine Pf.go 1 ?_
 repeat' (first|refine gy ?_|refine fq (λhw=>?_) λhw=>?_|refine ⟨_,rfl,?_⟩|fail)
 all_goals simp_all [j3,mP]
def ce4 (n:Int):Pf A 198 [.d (.int .u8 n)] (.d (.bool (pI n))):=by
 refine Pf.go 1 ?_
 repeat' (first|refine cl (bx6 _) ?_|refine cl (bv1 _) ?_|refine gy ?_|refine fq (λhw=>?_) λhw=>?_|refine ⟨_,rfl,?_⟩|fail)
 all_goals simp_all [j3,pI]
def ba4 (s:M3):Pf A 143 [.d (.str s)] (.d (.bool (M8 s))):=by
 refine Pf.gr 2 ?_;refine Ex.NX (match s with|[]=>W|c::r=> !(F6 (O r) 16&&dN c.toNat)) (Rn.text ?_) (λht=>?_) (λht=>?_)
 .repeat' (first|refine cl (bx6 _) ?_|refine gx ?_|refine fq (λhw=>?_) λhw=>?_|refine ⟨rfl,rfl,_,rfl,?_⟩|refine ⟨rfl,rfl⟩|fail)
  all_goals cases s
  all_goals first|(simp [*,j3,ay];done)|(simp_all [j3,ay];done)|(simp_all [j3,ay,s9,s8,o8,D2];done)|(simp_all [j3,ay,s9,s8,o8,D2]<;>omega)
 .refine gr ?_
  refine ⟨_,rfl,?_⟩;cases s with
  |nil=>rfl
  |cons c r =>
   simp only [p6] at ht;simp only [M8,ht,j3,Bool.false_and]
 .cases s with
  |nil=>cases ht
  |cons c r =>
  have hl:=ht;simp [s9] at hl;have hb:O (c::r)<=16:=D
  refine gr ?_;refine Ex.T9 (λk T H=>∃(i:Nat),T=[.d (.str (c::r)),.any,.d (.int .i64 i)]/\H=[]/\i+k=O (c::r)/\M8 (c::r)=((c::r).drop i).all λc=>pI c.toNat) ?_ (k:=O (c::r)) ⟨0,rfl,rfl,U,by simp [M8,hl,s9]⟩;rintro k _ _ ⟨i,rfl,rfl,hk,hi⟩
  repeat' (first|refine cl (ce4 _) ?_|refine gy ?_|refine ft (λht=>?_) λht=>?_|refine ⟨_,rfl,?_⟩|fail)
  .simp only [p6] at ht
   simp only [j3];have h1:=C4 ‹_›;rw [hi,E0 V];simp [ht]
  .have h1:=C4 ‹_›
   rw [E0 V] at hi;simp only [E4] at ht;refine kk ⟨i+1,rfl,rfl,V,?_⟩;rw [hi];simp [ht]
  .have h1:=B5 ‹_›
   rw [n9 V] at hi;simp [hi,j3]
def vz (n a b:Int):Pf A 111 [.d (Z n),.d (Z a),.d (Z b)] (.d (.bool (s7 n a b))):=by
 refine Pf.go 1 ?_
 repeat' (first|refine gy ?_|refine fq (λhw=>?_) λhw=>?_|refine ⟨_,rfl,?_⟩|fail)
 all_goals first|(simp [*,j3,s7];done)|(simp_all [j3,s7];done)|(simp_all [j3,s7,s9,s8,o8,D2];done)|(simp_all [j3,s7,s9,s8,o8,D2]<;>omega)
def rJ (n a b:Int):Pf A 210 [.d (Z n),.d (Z a),.d (Z b)] (.d (.bool (s7 n a b))):=by
 refine Pf.go 1 ?_
 repeat' (first|refine gy ?_|refine fq (λhw=>?_) λhw=>?_|refine ⟨_,rfl,?_⟩|fail)
 all_goals first|(simp [*,j3,s7];done)|(simp_all [j3,s7];done)|(simp_all [j3,s7,s9,s8,o8,D2];done)|(simp_all [j3,s7,s9,s8,o8,D2]<;>omega)
def bv4 (n:Int):Pf A 250 [.d (Z n)] (.d (.bool (u7 n 1||u7 n 2))):=by
 refine Pf.go 1 ?_
 repeat' (first|refine gy ?_|refine fq (λhw=>?_) λhw=>?_|refine ⟨_,rfl,?_⟩|fail)
 all_goals exact cc
def ints (l:List Int):A1.Data:=C6 (λn=>[Z n]) l
def hasB (l:List Int)(n:Int):Bool:=l.any λx=>u7 x n
def ce2 (xs:List Int)(n:Int)(hx:O xs<=1000):Pf A 246 [.d (ints xs),.d (Z n)] (.d (.bool (hasB xs n))):=by
 refine Pf.gr 2 ?_;refine Ex.T9 (λk T H=>∃(i:Nat),T=[.d (ints xs),.d (Z n),.any,.d (Z i)]/\H=[]/\i+k=O xs/\hasB xs n=(xs.drop i).any λx=>u7 x n) ?_ (k:=O xs) ⟨0,rfl,rfl,U,by simp [hasB]⟩;rintro k _ _ ⟨i,rfl,rfl,hk,hi⟩
 repeat' (first|refine gy ?_|refine ft (λht=>?_) λht=>?_|refine ⟨_,rfl,?_⟩|fail)
 .have h1:=C4 ‹F6 i _=W›
  rw [E0 V] at hi;simp [hi,ht,j3]
 .have h1:=C4 ‹F6 i _=W›
  rw [E0 V] at hi;exact kk ⟨i+1,rfl,rfl,V,by simp [hi,ht]⟩
 .have h1:=B5 ht
  rw [n9 V] at hi;simp [hi,j3]
def gL {α:Type}(eq:α->α->Bool):List α->List α->Bool
 |[],[]=>W
 |a::l,c::m=>eq a c&&gL eq l m
 |_,_=>F
theorem tD {α:Type}{eq:α->α->Bool}:∀{l m:List α},O l≠O m->gL eq l m=F
 |[],[],h=>absurd rfl h
 |[],_::_,_=>rfl
 |_::_,[],_=>rfl
 |a::l,c::m,h=>by simp only [gL,tD (l:=l) (m:=m) (by simpa using h),Bool.and_false]
def ce7 (xs ys:List Int)(hx:O xs<=100000):Pf A 201 [.d (ints xs),.d (ints ys)] (.d (.bool (gL u7 xs ys))):=by
 refine Pf.go 2 ?_
 repeat' (first|refine gy ?_|refine ft (λht=>?_) λht=>?_|refine ⟨_,rfl,?_⟩|fail)
 .have h1:O xs≠O ys:=by simp [o8] at ht;omega
  simp [tD h1,j3]
 have hl:O xs=O ys:=by simp [o8] at ht;omega
 refine Ex.T9 (λk T H=>∃(i:Nat),T=[.d (ints xs),.d (ints ys),.any,.d (Z i)]/\H=[]/\i+k=O xs/\gL u7 xs ys=gL u7 (xs.drop i) (ys.drop i)) ?_ (k:=O xs) ⟨0,rfl,rfl,U,U⟩;rintro k _ _ ⟨i,rfl,rfl,hk,hi⟩
 repeat' (first|refine gy ?_|refine ft (λht=>?_) λht=>?_|refine ⟨_,rfl,?_⟩|fail)
 .have h1:=C4 ‹F6 i _=W›
  rw [E0 V,E0 (l:=ys) V] at hi;simp only [p6] at ht;simp [hi,gL,ht,j3]
 .have h1:=C4 ‹F6 i _=W›
  rw [E0 V,E0 (l:=ys) V] at hi;simp only [E4] at ht;exact kk ⟨i+1,rfl,rfl,V,by simp [hi,gL,ht]⟩
 .have h1:=B5 ht
  rw [n9 V,n9 V] at hi;simp [hi,gL,j3]
def bu8 (xs ys:List Int)(hx:O xs<=100000):Pf A 218 [.d (ints xs),.d (ints ys)] (.d (.bool (gL u7 xs ys))):=by
 refine Pf.go 4 ?_
 repeat' (first|refine gy ?_|refine ft (λht=>?_) λht=>?_|refine ⟨_,rfl,?_⟩|fail)
 .have h1:O xs≠O ys:=by simp [o8] at ht;omega
  simp [tD h1,j3]
 have hl:O xs=O ys:=by simp [o8] at ht;omega
 refine Ex.T9 (λk T H=>∃(i:Nat),T=[.d (ints xs),.d (ints ys),.any,.any,.d (Z (O xs)),.d (Z i)]/\H=[]/\i+k=O xs/\gL u7 xs ys=gL u7 (xs.drop i) (ys.drop i)) ?_ (k:=O xs) ⟨0,rfl,rfl,U,U⟩;rintro k _ _ ⟨i,rfl,rfl,hk,hi⟩
 repeat' (first|refine gy ?_|refine ft (λht=>?_) λht=>?_|refine ⟨_,rfl,?_⟩|fail)
 .have h1:=C4 ‹F6 i _=W›
  rw [E0 V,E0 (l:=ys) V] at hi;simp only [p6] at ht;simp [hi,gL,ht,j3]
 .have h1:=C4 ‹F6 i _=W›
  rw [E0 V,E0 (l:=ys) V] at hi;simp only [E4] at ht;exact kk ⟨i+1,rfl,rfl,V,by simp [hi,gL,ht]⟩
 .have h1:=B5 ht
  rw [n9 V,n9 V] at hi;simp [hi,gL,j3]
def val (k n:Int)(s:M3):c8:= .agg [.d (Z k),.d (Z n),.d (.str s)]
def trm (t:Y8):c8:= .agg (t.enc.map .d)
set_option maxHeartbeats 2000000 in
def bw9 (k n:Int)(s:M3):Pf A 228 [val k n s] (.d (.bool (jL k n s))):=by
 refine Pf.go 3 ?_
 repeat' (first|refine gy ?_|refine fq (λhw=>?_) λhw=>?_|refine ⟨_,rfl,?_⟩|fail)
 all_goals first|(simp [*,j3,jL];done)|(simp_all [j3,jL];done)|(simp_all [j3,jL,s9,s8,o8,D2];done)|(simp_all [j3,jL,s9,s8,o8,D2]<;>omega)
set_option maxHeartbeats 2000000 in
def bx0 (k n:Int)(s:M3):Pf A 303 [val k n s] (.d (.bool (jL k n s))):=by
 refine Pf.go 3 ?_
 repeat' (first|refine gy ?_|refine fq (λhw=>?_) λhw=>?_|refine ⟨_,rfl,?_⟩|fail)
 all_goals first|(simp [*,j3,jL];done)|(simp_all [j3,jL];done)|(simp_all [j3,jL,s9,s8,o8,D2];done)|(simp_all [j3,jL,s9,s8,o8,D2]<;>omega)
set_option maxHeartbeats 2000000 in
def aM9 (t:Y8):Pf A 272 [trm t] (.d (.bool (fc t))):=by
 refine Pf.go 3 ?_
 repeat' (first|refine cl (bw9 _ _ _) ?_|refine gy ?_|refine fq (λhw=>?_) λhw=>?_|refine ⟨_,rfl,?_⟩|fail)
 all_goals first|(simp [*,j3,fc,zeroV];done)|(simp_all [j3,fc,zeroV];done)|(simp_all [j3,fc,zeroV,s9,s8,o8,D2];done)|(simp_all [j3,fc,zeroV,s9,s8,o8,D2]<;>omega)
set_option maxHeartbeats 2000000 in
def ad2 (op:Int):Pf A 141 [.d (Z op)] (.d (Z (qD op))):=by
 refine Pf.go 4 ?_
 repeat' (first|refine gy ?_|refine fq (λhw=>?_) λhw=>?_|refine ⟨_,rfl,?_⟩|fail)
 all_goals first|(simp [*,j3,qD,Z];done)|(simp_all [j3,qD,Z];done)|(simp_all [j3,qD,Z,s9,s8,o8,D2];done)|(simp_all [j3,qD,Z,s9,s8,o8,D2]<;>omega)
set_option maxHeartbeats 8000000 in
def ad7 (op:Int):Pf A 290 [.d (Z op)] (.d (Z (qD op))):=by
 refine Pf.go 5 ?_
 repeat' (first|refine gy ?_|refine fq (λhw=>?_) λhw=>?_|refine ⟨_,rfl,?_⟩|fail)
 all_goals first|(simp [*,j3,qD,Z];done)|(simp_all [j3,qD,Z];done)|(simp_all [j3,qD,Z,s9,s8,o8,D2];done)|(simp_all [j3,qD,Z,s9,s8,o8,D2]<;>omega)
def gn (e:List Y8):c8:= .d (C6 Y8.enc e)
def uS (e:List Y8)(d p:Nat):Int:=match Q2 d (e.drop p) with
 |none=> -1
 |some (_,r)=>((O e - O r:Nat):Int)
def Jv (e:List Y8)(d k p:Nat):Int:=match gD (Q2 d) k (e.drop p) with
 |none=> -1
 |some (_,r)=>((O e - O r:Nat):Int)
def Ws {e:List Y8}{d p:Nat}(hp:p<O e)(h:BV (Y e p)=W):uS e (d+1) p=Jv e d (qD (Y e p).op).toNat (p+1):=by
 simp only [uS,Jv];rw [E0 hp,Q2,h,if_pos rfl];cases gD (Q2 d) (qD (Y e p).op).toNat (e.drop (p+1)) with
 |none=>rfl
 |some x=>rfl
def GO {e:List Y8}{d p:Nat}(h:O e<=p\/d=0\/BV (Y e p)=F):uS e d p= -1:=by
 simp only [uS]
 rcases h with h|h|h
 .rw [n9 h]
  cases d<;>rfl
 .subst h;rfl
 .rcases A5 p (O e) with hp|hp
  .rw [E0 hp]
   cases d with
   |zero=>rfl
   |succ d=>rw [Q2,h,if_neg U]
  .rw [n9 hp]
   cases d<;>rfl
def uT (e:List Y8)(d p:Nat):(uS e d p= -1/\Q2 d (e.drop p)=K)\/∃q:Nat,uS e d p=q/\q<=O e/\p<=q/\∃a,Q2 d (e.drop p)=J (a,e.drop q):=by
 simp only [uS];cases h:Q2 d (e.drop p) with
 |none=>exact Or.inl ⟨rfl,rfl⟩
 |some x =>
  obtain ⟨a,r⟩:=x;right;obtain ⟨h1,_,_⟩:=V9 d _ a r h;have h2:O r<=O e - p:=by
   have:=congrArg List.length h1;simp at this;omega
  have h4:p<=O e:=by
   rcases A5 (O e) p with hp|hp
   .rw [n9 V] at h1
    have:=congrArg List.length h1;have:=kP a;simp at *
    omega
   .exact hp
  refine ⟨O e - O r,rfl,V,V,a,?_⟩;have h3:e.drop (O e - O r)=r:=by
   have h5:e=(e.take p++a.flat)++r:=by rw [D3,<- h1,List.take_append_drop]
   conv=>lhs;rw [h5]
   rw [List.drop_append_of_le_length D,n9 D];rfl
  rw [h3]
def Wr {e:List Y8}{d k p:Nat}:Jv e d (k+1) p=if F6 (uS e d p) 0 then -1 else Jv e d k (uS e d p).toNat:=by
 rcases uT e d p with ⟨h1,h2⟩|⟨q,h1,_,_,a,h2⟩
 .rw [h1,if_pos (by simp [s9])]
  simp only [Jv,gD,h2]
 .rw [h1,if_neg (by simp [s9])]
  simp only [Jv,gD,h2,J9];cases gD (Q2 d) k (e.drop q) with
  |none=>rfl
  |some x=>rfl
set_option maxHeartbeats 2000000 in
def aM8 (e:List Y8)(he:O e<=1000):∀d p:Nat,d<=100->p<=2000->Pf A 229 [gn e,.d (Z p),.d (Z d)] (.d (Z (uS e d p))):=by
 intro d
 induction d with
 |zero =>
  intro p _ hp;refine Pf.run [gn e,.d (Z p),.d (Z (0:Nat)),.any,.any,.any] rfl rfl rfl rfl ?_;refine gr ?_;refine tc (W) (And.intro ad2 aM9) (λh1=>?_) (λh1=>?_)
  .refine gr ?_
   exact ⟨_,rfl,by rw [GO (Or.inr (Or.inl rfl))];rfl⟩
  .cases h1
 |succ d ih =>
  intro p hd hp;refine Pf.run [gn e,.d (Z p),.d (Z (d+1:Nat)),.any,.any,.any] rfl rfl rfl rfl ?_;refine gr ?_;refine tB (cg (O e) p|| !BV (Y e p)) ?_ (λh1=>?_) (λh1=>?_)
  .repeat' (first|refine cl (ad2 _) ?_|refine cl (aM9 _) ?_|refine gx ?_|refine fq (λhw=>?_) λhw=>?_|refine ⟨rfl,rfl,_,rfl,?_⟩|refine ⟨rfl,rfl⟩|fail)
   all_goals first|(simp [*,j3,BV];done)|(simp_all [j3,BV];done)|(simp_all [j3,BV,s9,s8,o8,D2];done)|(simp_all [j3,BV,s9,s8,o8,D2]<;>omega)
  .refine gr ?_
   refine ⟨_,rfl,?_⟩;rw [GO]
   .rfl
   .simp only [Bool.or_eq_true,p6] at h1
    rcases h1 with h|h
    .have:=qo h;left;omega
    .exact Or.inr (Or.inr h)
  simp only [J3,E4] at h1;have h2:=Am h1.1;have h3:=sW (Y e p).op;have h4:0<=qD (Y e p).op:=by
   have:=h1.2;simp only [BV,c7,p6] at this;exact B5 this.1
  refine gc ad2 ?_;refine Ex.aY (λk T H=>∃(i q:Nat) (v:c8),T=[gn e,.d (Z q),.d (Z (d+1:Nat)),v,.d (Z (qD (Y e p).op)),.d (Z i)]/\H=[]/\(i:Int)+k=qD (Y e p).op/\q<=O e/\uS e (d+1) p=Jv e d k q) ?_ (k:=(qD (Y e p).op).toNat) ⟨0,p+1,_,rfl,rfl,V,V,Ws V h1.2⟩;rintro k _ _ ⟨i,q,v,rfl,rfl,hk,hq,hi⟩;refine Ex.nT ?_;refine Ex.seq ?_;refine tl i (qD (Y e p).op) (λh6=>?_) (λh6=>?_)
  .obtain ⟨k,rfl⟩:∃k',k=k' +1:=⟨k - 1,V⟩
   refine gr ?_;refine cl (ih q V V) ?_ (ha:=by rw [show (d:Int)=((d+1:Nat):Int) - 1 by omega];rfl);rw [Wr] at hi
   rcases uT e d q with ⟨e1,_⟩|⟨q',e1,e2,_,_,_⟩
   .rw [e1] at hi ⊢
    have e3:F6 (-1) 0=W:=by simp [s9]
    rw [e3,if_pos rfl] at hi;refine gr ?_;refine tb (W) (λh7=>?_) (λh7=>?_)
    .refine gr ?_
     exact ⟨_,rfl,by rw [hi];rfl⟩
    .cases h7
   .rw [e1] at hi ⊢
    have e3:F6 (q' :Int) 0=F:=by simp [s9]
    rw [e3,if_neg U] at hi;refine gr ?_;refine tb (F) (λh7=>?_) (λh7=>?_)
    .cases h7
    refine gr ?_;exact ⟨k,V,i+1,q',_,rfl,rfl,V,V,hi⟩
  .obtain rfl:k=0:=V
   refine gr ?_;refine ⟨_,rfl,?_⟩;have h8:Jv e d 0 q=q:=by simp only [Jv,gD,List.length_drop];omega
   rw [hi,h8];rfl
def Z4 (e:List Y8):Bool:=cg 1 (O e)&&cg (O e) 64&&u7 (uS e 16 0) (O e)
def aM4 (e:List Y8)(he:O e<=1000):Pf A 170 [gn e] (.d (.bool (Z4 e))):=by
 refine Pf.go 1 ?_
 repeat' (first|refine cl (aM8 e he 16 0 V V) ?_|refine gy ?_|refine fq (λhw=>?_) λhw=>?_|refine ⟨_,rfl,?_⟩|fail)
 all_goals first|(simp [*,j3,Z4];done)|(simp_all [j3,Z4];done)|(simp_all [j3,Z4,s9,s8,o8,D2];done)|(simp_all [j3,Z4,s9,s8,o8,D2]<;>omega)
theorem iO (e:List Y8):Z4 e=(iP e).isSome:=by
 unfold Z4 iP;cases h:(cg 1 (O e)&&cg (O e) 64) with
 |false=>rfl
 |true =>
  simp only [if_true,Bool.true_and];simp only [c7] at h;have hl:=qo h.1;simp only [uS,List.drop_zero];cases h1:Q2 16 e with
  |none =>
   simp only [Option.isSome_none,o8];simp
  |some x =>
   obtain ⟨a,r⟩:=x;obtain ⟨h2,_,_⟩:=V9 16 e a r h1;have h3:O a.flat+O r=O e:=by rw [h2];simp
   have h4:=kP a;cases r with
   |nil=>simp [o8]
   |cons t r=>simp [o8] at *;omega
def bd2 (l:List bS):c8:= .d (C6 (λx=>[C6 Y8.enc x]) (l.map bS.flat))
def Qu {e:List Y8}{p:Nat}{a:bS}{l:List bS}(h:e.drop p=P6 (a::l)):e.drop (p+O a.flat)=P6 l/\(e.take (p+O a.flat)).drop p=a.flat:=by
 constructor
 .rw [<- List.drop_drop,h,P6,List.drop_left]
 .rw [List.drop_take,h,Nat.add_sub_cancel_left,P6,List.take_left]
set_option maxHeartbeats 2000000 in
def bw0 (t:Y8)(l:List bS)(he:O (t::P6 l)<=1000)(hw:wfL l)(hd:oU l<=16):Pf A 230 [gn (t::P6 l)] (bd2 l):=by
 refine Pf.gr 4 ?_;refine Ex.aY (λk T H=>∃(p:Nat) (l1 l2:List bS) (v w:c8),T=[gn (t::P6 l),v,D9 1 (λx=>[C6 Y8.enc x]) (l1.map bS.flat),.d (Z p),w]/\H=[]/\k=O l2/\l=l1++l2/\p<=O (t::P6 l)/\(t::P6 l).drop p=P6 l2/\wfL l2/\oU l2<=16) ?_ (k:=O l) ⟨1,[],l,_,_,rfl,rfl,rfl,rfl,U,rfl,hw,hd⟩;rintro k _ _ ⟨p,l1,l2,v,w,rfl,rfl,hk,hl,hp,hp2,hw2,hd2⟩;have hlen:=yK l;have PS:O l1<=1000:=by
  have:=congrArg List.length hl;simp at this he;omega
 have Du:O (P6 l2)+p=O (t::P6 l):=by rw [<- hp2];simp at hp ⊢;omega
 refine Ex.nT ?_;refine Ex.seq ?_;refine tb (F6 p (O (t::P6 l))) (λh1=>?_) (λh1=>?_)
 .have h2:=C4 h1
  cases l2 with
  |nil=>simp [P6] at Du h2;omega
  |cons a l2 =>
  have h3:=Qu hp2;have h4:uS (t::P6 l) 16 p=((p+O a.flat:Nat):Int):=by
   simp only [oU] at hd2;simp only [uS,hp2,P6];rw [aA a 16 (P6 l2) hw2.1 V];simp only [P6,n5] at Du;simp only;omega
  have h5:=aM8 (t::P6 l) he 16 p V V;rw [h4] at h5;simp only [P6,n5] at Du;refine gc h5 ?_;refine ⟨O l2,by simp at hk;omega,p+O a.flat,l1++[a],l2,.any,.d (Z (p+O a.flat:Nat)),by rw [h3.2];simp [D9],rfl,rfl,by simp [hl],V,h3.1,hw2.2,by simp only [oU] at hd2;omega⟩
 .have h2:=B5 h1
  cases l2 with
  |cons a l2 =>
   have:=kP a;simp only [P6,n5] at Du;omega
  |nil =>
  refine gr ?_;refine ⟨_,rfl,?_⟩;simp at hl;subst hl;rfl
def MZ (op:Int)(k:Nat):Prop:=(op=3\/op=9\/op=13\/op=16)/\k=1\/op=18/\k=3\/4<=op/\op<=17/\op≠9/\op≠13/\op≠16/\k=2
def ab8 {t:Y8}{k:Nat}(h:BV t=W)(hk:(qD t.op).toNat=k)(h1:u7 t.op 1=F)(h2:u7 t.op 2=F):MZ t.op k:=by
 simp only [BV,c7,p6] at h;have h3:=B5 h.1;simp only [qD,h1,h2,Bool.or_self,j4,if_false,Bool.or_eq_true,c7] at h3 hk;unfold MZ;split at h3
 next h4=>
  rw [if_pos h4] at hk;simp [o8] at h4 hk;left;omega
 next h4=>
  rw [if_neg h4] at hk;simp [o8] at h4 h1 h2;split at h3
  next h5=>
   rw [if_pos h5] at hk;simp [o8] at h5 hk;right;left;omega
  next h5=>
   rw [if_neg h5] at hk;simp [o8] at h5;split at h3
   next h6=>
    rw [if_pos h6] at hk;simp [s8] at h6 hk;right;right;omega
   .omega
set_option maxHeartbeats 16000000 in
def bw1 (op:Int)(t:List Int)(h:MZ op (O t)):Pf A 231 [.d (Z op),.d (ints t)] (.d (Z (jK op t))):=by
 unfold MZ at h;refine Pf.go 7 ?_
 repeat' (first|refine gy ?_|refine fq (λhw=>?_) λhw=>?_|refine ⟨_,rfl,?_⟩|fail)
 all_goals first|(simp [*,j3,jK,Z];done)|(simp_all [j3,jK,Z];done)|(simp_all [j3,jK,Z,s9,s8,o8,D2];done)|(simp_all [j3,jK,Z,s9,s8,o8,D2]<;>omega)
def aA8 {α:Type} [Inhabited α] (l1:List α)(a:α)(l2:List α):Y (l1++a::l2) (O l1)=a:=by
 rw [E6 U];simp
theorem Dm {a:bS}:∀{l:List bS},a∈l->O a.flat<=O (P6 l)
 |b::l,h=>by
  simp only [P6,n5]
  rcases B6.1 h with rfl|h
  .omega
  .have:=Dm h;omega
theorem RO {a:bS}:∀{l:List bS},wfL l->a∈l->a.wf
 |b::l,hw,h=>by
  rcases B6.1 h with rfl|h
  .exact hw.1
  .exact RO hw.2 h
theorem Sw {a:bS}:∀{l:List bS},a∈l->a.dep<=oU l
 |b::l,h=>by
  simp only [oU]
  rcases B6.1 h with rfl|h
  .omega
  .have:=Sw h;omega
set_option maxHeartbeats 4000000 in
def bv3 (ty:List Int):∀(n:Nat) (a:bS),O a.flat<=n->n<=1000->a.wf->a.dep<=16->Pf A 171 [gn a.flat,.d (ints ty)] (.tuple [.d (Z (a.typ ty).1),.d (Z (a.typ ty).2)]):=by
 intro n
 induction n with
 |zero=>intro a h;have:=kP a;omega
 |succ n ih =>
 rintro ⟨t,l⟩ hn hn2 hw hd;simp only [bS.flat] at hn ⊢;simp only [bS.dep] at hd;have hle:O (t::P6 l)<=1000:=V
 have hpos:0<O (t::P6 l):=U
 have h0:Y (t::P6 l) 0=t:=ay _ _;obtain ⟨hok,har,Dv⟩:=hw;have Zm:=yK l;have hl3:O l<=3:=by have:=sW t.op;omega
 refine Pf.run [gn (t::P6 l),.d (ints ty),.any,.any,.any,.any,.any,.any,.any,.any,.any] rfl rfl rfl rfl ?_;refine gr ?_;rw [h0];have bV5:u7 t.op 2=W->u7 t.op 1=F->0<=t.col:=λh h' =>by
  simp only [BV,fc,h,h',if_true,j4,if_false,c7] at hok;exact qo hok.2.2
 have hl0:(u7 t.op 1||u7 t.op 2)=W->l=[]:=λh=>by
  have:qD t.op=0:=by unfold qD;rw [h,if_pos rfl]
  rw [this] at har;cases l with
  |nil=>rfl
  |cons a l=>simp at har
 refine tb (u7 t.op 1) (λh1=>?_) (λh1=>?_)
 .refine gr ?_
  refine ⟨_,rfl,?_⟩;rw [hl0 (by simp [h1])];simp [j3,bS.typ,jv,EN,h1,o8,Z,c8.K7,ay]
 refine gr ?_;refine tb (u7 t.op 2) (λh2=>?_) (λh2=>?_)
 .have hc:=bV5 h2 h1
  have Zm:=hl0 (by simp [h2]);refine gr ?_;refine tB (cg (O ty) t.col) ?_ (λh3=>?_) (λh3=>?_)
  .repeat' (first|refine gx ?_|refine fq (λhw=>?_) λhw=>?_|refine ⟨rfl,rfl,_,rfl,?_⟩|refine ⟨rfl,rfl⟩|fail)
   all_goals first|(simp [*,j3,ay];done)|(simp_all [j3,ay];done)|(simp_all [j3,ay,s9,s8,o8,D2];done)|(simp_all [j3,ay,s9,s8,o8,D2]<;>omega)
  .refine gr ?_
   refine ⟨_,rfl,?_⟩;rw [Zm];simp [j3,bS.typ,jv,EN,h1,h2,h3,o8,Z,c8.K7]
  .have h4:=Am h3
   refine gr ?_;rw [h0];refine gr ?_;refine ⟨_,rfl,?_⟩;rw [Zm];simp [j3,bS.typ,jv,EN,h1,h2,h3,o8,Z,c8.K7]
 have hfit:=ab8 hok har h1 h2;refine gc (bw0 t l hle Dv V) ?_;refine Ex.aY (λk T H=>∃(i:Nat) (l1 l2:List bS) (ts:List Int) (v2 v3 v7 v8 v9 v10:c8),T=[gn (t::P6 l),.d (ints ty),v2,v3,D9 1 (λn=>[Z n]) ts,bd2 l,.d (Z i),v7,v8,v9,v10]/\H=[]/\i=O l1/\k=O l2/\l=l1++l2/\O ts=O l1/\(jv ty l).1=ts++(jv ty l2).1/\(jv ty l).2=(jv ty l2).2) ?_ (k:=O l) ⟨0,[],l,[],_,_,_,_,_,_,rfl,rfl,rfl,rfl,rfl,rfl,rfl,rfl⟩;rintro k _ _ ⟨i,l1,l2,ts,v2,v3,v7,v8,v9,v10,rfl,rfl,Af,hk,hl,hts,e1,e2⟩;have hlen:O l=O l1+O l2:=by rw [hl];simp
 refine Ex.nT ?_;refine Ex.seq ?_;unfold bd2;refine tl i (O l) (λh4=>?_) (λh4=>?_)
 .cases l2 with
  |nil=>simp at hlen;omega
  |cons a l2 =>
  have hm:Y (l.map bS.flat) i=a.flat:=by
   have:=aA8 (l1.map bS.flat) a.flat (l2.map bS.flat);rw [hl,Af];simpa using this
  have ha:a∈l:=by rw [hl];simp
  have hp:=ih a (by have:=Dm ha;simp at hn;omega) V (RO Dv ha) (by have:=Sw ha;omega);have hlm:i<O (l.map bS.flat):=D
  refine gr ?_;rw [hm];simp only [jv] at e1 e2;refine gc hp ?_;refine tb (!u7 (a.typ ty).2 0) (λh5=>?_) (λh5=>?_)
  .simp only [p6] at h5
   simp only [h5,j4,if_false] at e1 e2;refine gr ?_;refine ⟨_,rfl,?_⟩;simp [j3,bS.typ,e2,h5,c8.K7,Z]
  .simp only [E4] at h5
   simp only [h5,if_true] at e1 e2;refine gr ?_;exact ⟨O l2,by simp at hk;omega,i+1,l1++[a],l2,ts++[(a.typ ty).1],_,_,_,_,_,_,rfl,rfl,by simp [Af],rfl,by simp [hl],by simp [hts],by simp [e1],e2⟩
 .cases l2 with
  |cons a l2=>simp at hlen;omega
  |nil =>
  simp only [jv,List.append_nil] at e1 e2;refine gr ?_;rw [h0];have bn2:MZ t.op (O ts):=by rw [hts];simpa [hl] using hfit
  refine gc (bw1 t.op ts bn2) ?_;refine tb (u7 (jK t.op ts) 0) (λh5=>?_) (λh5=>?_)
  .refine gr ?_
   refine ⟨_,rfl,?_⟩;simp [j3,bS.typ,e1,e2,h1,h2,h5,EN,c8.K7,Z,o8]
  .refine gr ?_
   refine ⟨_,rfl,?_⟩;simp [j3,bS.typ,e1,e2,h1,h2,h5,EN,c8.K7,Z,o8]
def pair (p:Int×Int):c8:= .tuple [.d (Z p.1),.d (Z p.2)]
set_option maxHeartbeats 2000000 in
def Tu (e:List Y8)(ty:List Int)(he:O e<=1000)(ht:O ty<=100000):Pf A 114 [gn e,.d (ints ty)] (pair (O6 e ty)):=by
 refine Pf.gr 3 ?_;refine tc (!Z4 e) (aM4 e he) (λh1=>?_) (λh1=>?_)
 .refine gr ?_
  refine ⟨_,rfl,?_⟩;rw [iO] at h1;cases h2:iP e with
  |none=>simp [O6,h2,j3,pair,Z,c8.K7]
  |some a=>simp [h2] at h1
 rw [iO] at h1;cases h2:iP e with
 |none=>simp [h2] at h1
 |some a =>
 have h3:e=a.flat/\a.wf/\a.dep<=16:=by
  unfold iP at h2;split at h2
  .split at h2
   next b h4=>
    obtain ⟨e1,e2,e3⟩:=V9 16 e b [] h4;cases h2;exact ⟨by simpa using e1,e2,e3⟩
   .cases h2
  .cases h2
 refine gr ?_;refine Ex.T9 (λk T H=>∃(i:Nat),T=[gn e,.d (ints ty),.any,.any,.d (Z i)]/\H=[]/\i+k=O ty/\eu ty=eu (ty.drop i)) ?_ (k:=O ty) ⟨0,rfl,rfl,U,U⟩;rintro k _ _ ⟨i,rfl,rfl,hk,hi⟩;refine Ex.seq ?_;refine tl i (O ty) (λh5=>?_) (λh5=>?_)
 .rw [E0 V] at hi
  refine gr ?_;refine tb (!u7 (Y ty i) 1&& !u7 (Y ty i) 2) (λh6=>?_) (λh6=>?_)
  .refine gr ?_
   refine ⟨_,rfl,?_⟩;have h7:eu ty=F:=by
    rw [hi];simp only [c7,p6] at h6;simp [eu,h6]
   simp [O6,h2,h7,j3,pair,Z,c8.K7]
  .refine gr ?_
   refine kk ⟨i+1,rfl,rfl,V,?_⟩;rw [hi];simp only [eu,List.all_cons];cases h7:u7 (Y ty i) 1<;>cases h8:u7 (Y ty i) 2<;>simp_all
 .rw [n9 V] at hi
  have h6:=bv3 ty (O e) a (by rw [h3.1];omega) he h3.2.1 h3.2.2;rw [<- h3.1] at h6;refine gc h6 ?_;refine ⟨_,rfl,?_⟩;have hg:eu ty=W:=by rw [hi];rfl
  simp [O6,h2,hg,j3,pair,c8.K7]
def encS (s:M3):List A1.Data:=[.str s]
set_option maxHeartbeats 4000000 in
def bx4 (c:s5)(hf:c.oW):Pf A 142 [cat c] (.d (C6 encS c.names)):=by
 obtain ⟨f0,f1,f2,f3,f4,f5,f6,f7⟩:=hf;refine Pf.gr 11 ?_;refine Ex.T9 (λk T H=>∃(i:Nat) (acc:List M3),T=[.any,.ptr 0 0,.any,D9 1 encS acc,.d (Z i),.any,.any,.any,.any,.any,.any,.any]/\H=[.cells (c.enc.map .d)]/\i+k=O c.k9/\acc=([]:List M3)++(c.k9.take i).map jV.name) ?_ (k:=O c.k9) ⟨0,([]:List M3),rfl,rfl,U,U⟩;rintro k _ _ ⟨i,acc,rfl,rfl,hk,hacc⟩;have hl:O acc=0+i:=by rw [hacc];simp;omega
 repeat' (first|refine gy ?_|refine ft (λht=>?_) λht=>?_|refine ⟨_,rfl,?_⟩|fail)
 .have h1:=C4 ht
  refine kk ⟨i+1,acc++[(Y c.k9 i).name],rfl,rfl,V,?_⟩;rw [E2 V,hacc];simp
 have h1:=B5 ht;rw [z7 V] at hacc;clear ht h1 hk hl;subst hacc;refine Ex.T9 (λk T H=>∃(i:Nat) (acc:List M3),T=[.any,.ptr 0 0,.any,D9 1 encS acc,.any,.d (Z i),.any,.any,.any,.any,.any,.any]/\H=[.cells (c.enc.map .d)]/\i+k=O c.views/\acc=c.k9.map jV.name++(c.views.take i).map Vw.name) ?_ (k:=O c.views) ⟨0,c.k9.map jV.name,rfl,rfl,U,U⟩;rintro k _ _ ⟨i,acc,rfl,rfl,hk,hacc⟩;have hl:O acc=0+O c.k9+i:=by rw [hacc];simp;omega
 repeat' (first|refine gy ?_|refine ft (λht=>?_) λht=>?_|refine ⟨_,rfl,?_⟩|fail)
 .have h1:=C4 ht
  refine kk ⟨i+1,acc++[(Y c.views i).name],rfl,rfl,V,?_⟩;rw [E2 V,hacc];simp
 have h1:=B5 ht;rw [z7 V] at hacc;clear ht h1 hk hl;subst hacc;refine Ex.T9 (λk T H=>∃(i:Nat) (acc:List M3),T=[.any,.ptr 0 0,.any,D9 1 encS acc,.any,.any,.d (Z i),.any,.any,.any,.any,.any]/\H=[.cells (c.enc.map .d)]/\i+k=O c.idxs/\acc=c.k9.map jV.name++c.views.map Vw.name++(c.idxs.take i).map qh.name) ?_ (k:=O c.idxs) ⟨0,c.k9.map jV.name++c.views.map Vw.name,rfl,rfl,U,U⟩;rintro k _ _ ⟨i,acc,rfl,rfl,hk,hacc⟩;have hl:O acc=0+O c.k9+O c.views+i:=by rw [hacc];simp;omega
 repeat' (first|refine gy ?_|refine ft (λht=>?_) λht=>?_|refine ⟨_,rfl,?_⟩|fail)
 .have h1:=C4 ht
  refine kk ⟨i+1,acc++[(Y c.idxs i).name],rfl,rfl,V,?_⟩;rw [E2 V,hacc];simp
 have h1:=B5 ht;rw [z7 V] at hacc;clear ht h1 hk hl;subst hacc;refine Ex.T9 (λk T H=>∃(i:Nat) (acc:List M3),T=[.any,.ptr 0 0,.any,D9 1 encS acc,.any,.any,.any,.d (Z i),.any,.any,.any,.any]/\H=[.cells (c.enc.map .d)]/\i+k=O c.O1/\acc=c.k9.map jV.name++c.views.map Vw.name++c.idxs.map qh.name++(c.O1.take i).map oO.name) ?_ (k:=O c.O1) ⟨0,c.k9.map jV.name++c.views.map Vw.name++c.idxs.map qh.name,rfl,rfl,U,U⟩;rintro k _ _ ⟨i,acc,rfl,rfl,hk,hacc⟩;have hl:O acc=0+O c.k9+O c.views+O c.idxs+i:=by rw [hacc];simp;omega
 repeat' (first|refine gy ?_|refine ft (λht=>?_) λht=>?_|refine ⟨_,rfl,?_⟩|fail)
 .have h1:=C4 ht
  refine kk ⟨i+1,acc++[(Y c.O1 i).name],rfl,rfl,V,?_⟩;rw [E2 V,hacc];simp
 have h1:=B5 ht;rw [z7 V] at hacc;clear ht h1 hk hl;subst hacc;refine Ex.T9 (λk T H=>∃(i:Nat) (acc:List M3),T=[.any,.ptr 0 0,.any,D9 1 encS acc,.any,.any,.any,.any,.d (Z i),.any,.any,.any]/\H=[.cells (c.enc.map .d)]/\i+k=O c.P3/\acc=c.k9.map jV.name++c.views.map Vw.name++c.idxs.map qh.name++c.O1.map oO.name++(c.P3.take i).map sV.name) ?_ (k:=O c.P3) ⟨0,c.k9.map jV.name++c.views.map Vw.name++c.idxs.map qh.name++c.O1.map oO.name,rfl,rfl,U,U⟩;rintro k _ _ ⟨i,acc,rfl,rfl,hk,hacc⟩;have hl:O acc=0+O c.k9+O c.views+O c.idxs+O c.O1+i:=by rw [hacc];simp;omega
 repeat' (first|refine gy ?_|refine ft (λht=>?_) λht=>?_|refine ⟨_,rfl,?_⟩|fail)
 .have h1:=C4 ht
  refine kk ⟨i+1,acc++[(Y c.P3 i).name],rfl,rfl,V,?_⟩;rw [E2 V,hacc];simp
 have h1:=B5 ht;rw [z7 V] at hacc;clear ht h1 hk hl;subst hacc;refine Ex.T9 (λk T H=>∃(i:Nat) (acc:List M3),T=[.any,.ptr 0 0,.any,D9 1 encS acc,.any,.any,.any,.any,.any,.d (Z i),.any,.any]/\H=[.cells (c.enc.map .d)]/\i+k=O c.T0/\acc=c.k9.map jV.name++c.views.map Vw.name++c.idxs.map qh.name++c.O1.map oO.name++c.P3.map sV.name++(c.T0.take i).map qI.name) ?_ (k:=O c.T0) ⟨0,c.k9.map jV.name++c.views.map Vw.name++c.idxs.map qh.name++c.O1.map oO.name++c.P3.map sV.name,rfl,rfl,U,U⟩;rintro k _ _ ⟨i,acc,rfl,rfl,hk,hacc⟩;have hl:O acc=0+O c.k9+O c.views+O c.idxs+O c.O1+O c.P3+i:=by rw [hacc];simp;omega
 repeat' (first|refine gy ?_|refine ft (λht=>?_) λht=>?_|refine ⟨_,rfl,?_⟩|fail)
 .have h1:=C4 ht
  refine kk ⟨i+1,acc++[(Y c.T0 i).name],rfl,rfl,V,?_⟩;rw [E2 V,hacc];simp
 have h1:=B5 ht;rw [z7 V] at hacc;clear ht h1 hk hl;subst hacc;refine Ex.T9 (λk T H=>∃(i:Nat) (acc:List M3),T=[.any,.ptr 0 0,.any,D9 1 encS acc,.any,.any,.any,.any,.any,.any,.d (Z i),.any]/\H=[.cells (c.enc.map .d)]/\i+k=O c.U0/\acc=c.k9.map jV.name++c.views.map Vw.name++c.idxs.map qh.name++c.O1.map oO.name++c.P3.map sV.name++c.T0.map qI.name++(c.U0.take i).map vL.name) ?_ (k:=O c.U0) ⟨0,c.k9.map jV.name++c.views.map Vw.name++c.idxs.map qh.name++c.O1.map oO.name++c.P3.map sV.name++c.T0.map qI.name,rfl,rfl,U,U⟩;rintro k _ _ ⟨i,acc,rfl,rfl,hk,hacc⟩;have hl:O acc=0+O c.k9+O c.views+O c.idxs+O c.O1+O c.P3+O c.T0+i:=by rw [hacc];simp;omega
 repeat' (first|refine gy ?_|refine ft (λht=>?_) λht=>?_|refine ⟨_,rfl,?_⟩|fail)
 .have h1:=C4 ht
  refine kk ⟨i+1,acc++[(Y c.U0 i).name],rfl,rfl,V,?_⟩;rw [E2 V,hacc];simp
 have h1:=B5 ht;rw [z7 V] at hacc;clear ht h1 hk hl;subst hacc;refine Ex.T9 (λk T H=>∃(i:Nat) (acc:List M3),T=[.any,.ptr 0 0,.any,D9 1 encS acc,.any,.any,.any,.any,.any,.any,.any,.d (Z i)]/\H=[.cells (c.enc.map .d)]/\i+k=O c.W7/\acc=c.k9.map jV.name++c.views.map Vw.name++c.idxs.map qh.name++c.O1.map oO.name++c.P3.map sV.name++c.T0.map qI.name++c.U0.map vL.name++(c.W7.take i).map vJ.name) ?_ (k:=O c.W7) ⟨0,c.k9.map jV.name++c.views.map Vw.name++c.idxs.map qh.name++c.O1.map oO.name++c.P3.map sV.name++c.T0.map qI.name++c.U0.map vL.name,rfl,rfl,U,U⟩;rintro k _ _ ⟨i,acc,rfl,rfl,hk,hacc⟩;have hl:O acc=0+O c.k9+O c.views+O c.idxs+O c.O1+O c.P3+O c.T0+O c.U0+i:=by rw [hacc];simp;omega
 repeat' (first|refine gy ?_|refine ft (λht=>?_) λht=>?_|refine ⟨_,rfl,?_⟩|fail)
 .have h1:=C4 ht
  refine kk ⟨i+1,acc++[(Y c.W7 i).name],rfl,rfl,V,?_⟩;rw [E2 V,hacc];simp
 have h1:=B5 ht;rw [z7 V] at hacc;clear ht h1 hk hl;subst hacc;simp [j3,C6,D9,s5.names]
def s5.sn (c:s5):List M3:=c.k9.map jV.name++c.views.map Vw.name
def s5.ns (c:s5):Nat:=O c.k9+O c.views
def K9 (name:M3):List M3->Nat->Int
 |[],_=> -1
 |x::r,i=>if P8 x name then i else K9 name r (i+1)
def I4 (c:s5)(name:M3)(n:Nat):Int:=K9 name ((s5.sn c).take n) 0
theorem aK (c:s5):O (s5.sn c)=s5.ns c:=by simp [s5.sn,s5.ns]
def DQ (c:s5){i:Nat}(h:i<s5.ns c):Y c.names i=Y (s5.sn c) i:=by
 have h1:c.names=s5.sn c++(c.idxs.map qh.name++c.O1.map oO.name++c.P3.map sV.name++c.T0.map qI.name++c.U0.map vL.name++c.W7.map vJ.name):=by simp [s5.names,s5.sn]
 have h2:i<O (s5.sn c):=by grind [aK]
 grind [E6,List.getElem_append_left]
theorem iH (c:s5):s5.ns c<=O c.names:=by simp [s5.names,s5.ns]
def Kb (c:s5)(name:M3)(n:Nat)(hf:c.oW)(hn:n<=100000):Pf A 112 [cat c,.d (.str name),.d (Z n)] (.d (Z (I4 c name n))):=by
 have hl:=iH c;have hc:s5.ns c<=2000:=by obtain ⟨f0,f1,_⟩:=hf;grind [s5.ns]
 have hs:=aK c;have wH :O c.k9+O c.views<=2000:=hc;refine Pf.go 4 ?_;refine gc (bx4 c hf) ?_;refine Ex.ru (λk T H=>∃(i:Nat) (v w:c8),T=[v,.d (.str name),.d (Z n),.ptr 0 0,w,.d (C6 encS c.names),.d (Z i)]/\H=[.cells (c.enc.map .d)]/\i+k=s5.ns c/\i<=n/\I4 c name n=K9 name (((s5.sn c).take n).drop i) i) M ?_ (k:=s5.ns c) ⟨0,_,_,rfl,rfl,U,V,by simp [I4]⟩;rintro k _ _ ⟨i,v,w,rfl,rfl,hk,hin,hi⟩;refine Ex.nT ?_;refine Ex.seq ?_;refine tB (F6 i n&&F6 i (s5.ns c)) ?_ (λh1=>?_) (λh1=>?_)
 .repeat' (first|refine gx ?_|refine fk (h1:=λhw=>?_) (h2:=λhw=>?_)|refine ⟨rfl,rfl,_,rfl,?_⟩|fail)
  all_goals grind [j3,s5.ns,s9,s8,o8,D2]
 .simp [c7] at h1
  have h2:=C4 h1.1;have h3:=C4 h1.2;have h4:((s5.sn c).take n).drop i=Y (s5.sn c) i::((s5.sn c).take n).drop (i+1):=by
   grind [E0,E6]
  rw [h4,<- DQ c V] at hi
  repeat' (first|refine gx ?_|refine Ex.test (Rn.text ?_)|refine ⟨_,rfl,λht=>?_,λht=>?_⟩|refine ⟨_,rfl,?_⟩|fail)
  .grind [K9,j3,Z]
  .exact kk ⟨i+1,_,_,rfl,rfl,V,V,by grind [K9]⟩
 .repeat' (first|refine gx ?_|refine ⟨_,rfl,?_⟩|fail)
  grind [s5.sn,n9,s9,K9,j3,Z]
def gZ (c:s5)(name:M3)(n:Nat):Int:=I4 c name (min n (O c.k9))
def ad1 (c:s5)(name:M3)(n:Nat)(hf:c.oW)(hn:n<=100000):Pf A 207 [cat c,.d (.str name),.d (Z n)] (.d (Z (gZ c name n))):=by
 refine Pf.gr 2 ?_;have e:(if (O c.k9:Int)<(n:Int) then (O c.k9:Int) else (n:Int))=((min n (O c.k9):Nat):Int):=by split<;>omega
 refine cl (Kb c name (min n (O c.k9)) hf V) ?_ (ha:=by rw [Z,<- e];rfl);refine gr ?_;exact ⟨_,rfl,rfl⟩
def aU (t:jV):Int->List Int->Bool
 |_,[]=>W
 |p,o::r=>F6 p o&&F6 o (O t.s6)&& !(P8 (Y t.s6 o.toNat).space []&&P8 (Y t.s6 o.toNat).refs [])&&aU t o r
def qE (t:jV):c8:= .agg (t.enc.map .d)
def bv2 (t:jV)(xs:List Int)(hx:O xs<=1000)(hc:O t.s6<=1000):Pf A 245 [qE t,.d (ints xs)] (.d (.bool (aU t (-1) xs))):=by
 refine Pf.gr 3 ?_;refine Ex.T9 (λk T H=>∃(i:Nat) (p:Int),T=[.any,.d (ints xs),.ptr 0 0,.any,.d (Z i)]/\H=[.cells (t.enc.map .d)]/\i+k=O xs/\p=(if i=0 then -1 else Y xs (i - 1))/\ -1<=p/\aU t (-1) xs=aU t p (xs.drop i)) ?_ (k:=O xs) ⟨0, -1,rfl,rfl,U,U,V,U⟩;rintro k _ _ ⟨i,p,rfl,rfl,hk,hp,hp1,hi⟩;refine Ex.seq ?_;refine tb (F6 i (O xs)) (λh1=>?_) (λh1=>?_)
 .have h2:=C4 h1
  rw [E0 V] at hi;have hq:(((i:Int) - 1).toNat)=i - 1:=V
  refine gr ?_;refine tB (!(s7 (Y xs i) 0 (O t.s6 - 1))||(F6 0 i&&cg (Y xs i) (Y xs (i - 1)))||(P8 (Y t.s6 (Y xs i).toNat).space []&&P8 (Y t.s6 (Y xs i).toNat).refs [])) ?_ (λh3=>?_) (λh3=>?_)
  .repeat' (first|refine cl (vz _ _ _) ?_|refine gx ?_|refine fk (h1:=λhw=>?_) (h2:=λhw=>?_)|refine ⟨rfl,rfl,_,rfl,?_⟩|fail)
   all_goals first|(simp [*,j3,hq];done)|(simp_all [j3,hq];done)
  .refine gr ?_
   refine ⟨_,rfl,?_⟩;have h5:(F6 p (Y xs i)&&F6 (Y xs i) (O t.s6)&& !(P8 (Y t.s6 (Y xs i).toNat).space []&&P8 (Y t.s6 (Y xs i).toNat).refs []))=F:=by
    rcases hS:(P8 (Y t.s6 (Y xs i).toNat).space []&&P8 (Y t.s6 (Y xs i).toNat).refs []) with _|_
    .simp [hS,s7,s9,s8] at h3 ⊢
     by_cases h0:i=0
     .simp [h0] at hp h3 ⊢;omega
     .simp [h0] at hp;omega
    .simp
   rw [hi,aU,h5];simp [j3]
  .refine gr ?_
   have h5:F6 p (Y xs i)=W/\F6 (Y xs i) (O t.s6)=W/\(P8 (Y t.s6 (Y xs i).toNat).space []&&P8 (Y t.s6 (Y xs i).toNat).refs [])=F:=by
    simp only [J3] at h3;refine ⟨?_,?_,h3.2⟩
    .simp [s7,s9,s8] at h3 ⊢
     by_cases h0:i=0
     .simp [h0] at hp h3 ⊢;omega
     .simp [h0] at hp;omega
    .simp [s7,s9,s8] at h3 ⊢
     omega
   refine kk ⟨i+1,Y xs i,rfl,rfl,V,U,?_,?_⟩
   .have:=C4 h5.1;omega
   .rw [hi,aU,h5.1,h5.2.1,h5.2.2]
    simp
 .refine gr ?_
  have h2:=B5 h1;rw [n9 V] at hi;exact ⟨_,rfl,by simp [hi,aU,j3]⟩
def eo (c:s5)(n i:Nat):Int :=
 if !M8 (Y (Y c.k9 n).s6 i).name||(!P8 (Y (Y c.k9 n).s6 i).space []&& !M8 (Y (Y c.k9 n).s6 i).space) then 3
 else if ((Y c.k9 n).s6.take i).any λy=>P8 y.name (Y (Y c.k9 n).s6 i).name then 4
 else if !P8 (Y (Y c.k9 n).s6 i).refs []&&F6 (gZ c (Y (Y c.k9 n).s6 i).refs n) 0 then 7
 else if (!u7 (Y (Y c.k9 n).s6 i).type 1&& !u7 (Y (Y c.k9 n).s6 i).type 2)||(cg 0 (gZ c (Y (Y c.k9 n).s6 i).refs n)&& !P8 (Y (Y c.k9 n).s6 i).refs []&& !u7 (Y (Y c.k9 (gZ c (Y (Y c.k9 n).s6 i).refs n).toNat).s6 0).type (Y (Y c.k9 n).s6 i).type) then 5
 else if (!P8 (Y (Y c.k9 n).s6 i).space []&& !P8 (Y (Y c.k9 n).s6 i).refs [])|| !aU (Y c.k9 n) (-1) (Y (Y c.k9 n).s6 i).L8|| !s7 (Y (Y c.k9 n).s6 i).jN 0 1||(u7 (O (Y (Y c.k9 n).s6 i).L8) 0&&(!u7 (Y (Y c.k9 n).s6 i).jN 0|| !u7 (Y (Y c.k9 n).s6 i).oV 0)) then 1
 else if !s7 (Y (Y c.k9 n).s6 i).oV 0 1048576||(!u7 (Y c.k9 n).cN 0&&F6 (Y c.k9 n).cN (Y (Y c.k9 n).s6 i).oV)||(u7 i 0&&F6 0 (O (Y (Y c.k9 n).s6 i).L8)&& !u7 (Y c.k9 n).erase 1) then 1
 else if (!P8 (Y (Y c.k9 n).s6 i).refs []&&F6 0 (O (Y (Y c.k9 (gZ c (Y (Y c.k9 n).s6 i).refs n).toNat).s6 0).L8))&& !hasB (Y (Y c.k9 n).s6 i).L8 i then 1
 else 0
theorem iF (name:M3):∀(l:List M3) (i:Nat),K9 name l i= -1\/((i:Int)<=K9 name l i/\K9 name l i<i+O l)
 |[],i=>Or.inl rfl
 |x::r,i=>by
  simp only [K9];split
  .simp;omega
  .rcases iF name r (i+1) with h|h
   .exact Or.inl h
   .simp;omega
def RK (c:s5)(name:M3)(n:Nat):gZ c name n= -1\/(0<=gZ c name n/\gZ c name n<n/\gZ c name n<O c.k9):=by
 unfold gZ I4
 rcases iF name ((s5.sn c).take (min n (O c.k9))) 0 with h|h
 .exact Or.inl h
 .simp at h
  omega
set_option maxHeartbeats 8000000 in
def ce5 (c:s5)(n i:Nat)(hf:c.oW)(hn:n<O c.k9)(hi:i<O (Y c.k9 n).s6)(hl:O (Y c.k9 n).s6<=1000)(ho:O (Y (Y c.k9 n).s6 i).L8<=1000)(hp:∀m,m<n->0<O (Y c.k9 m).s6):Pf A 199 [cat c,.d (Z n),.d (Z i)] (.d (Z (eo c n i))):=by
 have hn2:n<=1000:=by obtain ⟨f0,_⟩:=hf;omega
 have hb:gZ c (Y (Y c.k9 n).s6 i).refs n= -1\/(0<=gZ c (Y (Y c.k9 n).s6 i).refs n/\gZ c (Y (Y c.k9 n).s6 i).refs n<n/\gZ c (Y (Y c.k9 n).s6 i).refs n<O c.k9/\0<O (Y c.k9 (gZ c (Y (Y c.k9 n).s6 i).refs n).toNat).s6):=by
  rcases RK c (Y (Y c.k9 n).s6 i).refs n with h|h
  .exact Or.inl h
  .exact Or.inr ⟨h.1,h.2.1,h.2.2,hp _ V⟩
 refine Pf.gr 6 ?_;refine tc (!M8 (Y (Y c.k9 n).s6 i).name||(!P8 (Y (Y c.k9 n).s6 i).space []&& !M8 (Y (Y c.k9 n).s6 i).space)) ba4 (λh1=>?_) (λh1=>?_)
 .refine gr ?_
  exact ⟨_,rfl,by simp only [j3,Z,eo,h1,j4,if_true,if_false]⟩
 refine gr ?_;refine Ex.T9 (λk T H=>∃(j:Nat),T=[.any,.d (Z n),.d (Z i),.ptr 0 0,.any,.ptr 1 0,.ptr 2 0,.d (Z j),.any]/\H=[.cells (c.enc.map .d),.cells ((Y c.k9 n).enc.map .d),.cells ((Y (Y c.k9 n).s6 i).enc.map .d)]/\j+k=i/\(((Y c.k9 n).s6.take i).any λy=>P8 y.name (Y (Y c.k9 n).s6 i).name)=((((Y c.k9 n).s6.take i).drop j).any λy=>P8 y.name (Y (Y c.k9 n).s6 i).name)) ?_ (k:=i) ⟨0,rfl,rfl,U,U⟩;rintro k _ _ ⟨j,rfl,rfl,hk,hj⟩;refine Ex.seq ?_;refine tb (F6 j i) (λh8=>?_) (λh8=>?_)
 .have h9:=C4 h8
  rw [mY V V] at hj
  repeat' (first|refine gy ?_|refine ft (λht=>?_) λht=>?_|refine ⟨_,rfl,?_⟩|fail)
  .have h2:(((Y c.k9 n).s6.take i).any λy=>P8 y.name (Y (Y c.k9 n).s6 i).name)=W:=by rw [hj];simp [ht]
   simp only [j3,Z,eo,h1,h2,j4,if_true,if_false]
  .exact kk ⟨j+1,rfl,rfl,V,by rw [hj];simp [ht]⟩
 have h9:=B5 h8;rw [n9 D] at hj;have h2:(((Y c.k9 n).s6.take i).any λy=>P8 y.name (Y (Y c.k9 n).s6 i).name)=F:=by rw [hj];rfl
 clear hj h8 hk;refine gc (ad1 c (Y (Y c.k9 n).s6 i).refs n hf V) ?_;refine tb (!P8 (Y (Y c.k9 n).s6 i).refs []&&F6 (gZ c (Y (Y c.k9 n).s6 i).refs n) 0) (λh3=>?_) (λh3=>?_)
 .refine gr ?_
  exact ⟨_,rfl,by simp only [j3,Z,eo,h1,h2,h3,j4,if_true,if_false]⟩
 have h3' :(!P8 (Y (Y c.k9 n).s6 i).refs [])=W->0<=gZ c (Y (Y c.k9 n).s6 i).refs n:=λh=>by
  simp only [h,Bool.true_and] at h3;exact B5 h3
 have h3q:(!P8 (Y (Y c.k9 n).s6 i).refs [])=W->0<O (Y c.k9 (gZ c (Y (Y c.k9 n).s6 i).refs n).toNat).s6:=λh=>by have:=h3' h;omega
 refine tb ((!u7 (Y (Y c.k9 n).s6 i).type 1&& !u7 (Y (Y c.k9 n).s6 i).type 2)||(cg 0 (gZ c (Y (Y c.k9 n).s6 i).refs n)&& !P8 (Y (Y c.k9 n).s6 i).refs []&& !u7 (Y (Y c.k9 (gZ c (Y (Y c.k9 n).s6 i).refs n).toNat).s6 0).type (Y (Y c.k9 n).s6 i).type)) (λh4=>?_) (λh4=>?_)
 .refine gr ?_
  exact ⟨_,rfl,by simp only [j3,Z,eo,h1,h2,h3,h4,j4,if_true,if_false]⟩
 refine tc ((!P8 (Y (Y c.k9 n).s6 i).space []&& !P8 (Y (Y c.k9 n).s6 i).refs [])|| !aU (Y c.k9 n) (-1) (Y (Y c.k9 n).s6 i).L8|| !s7 (Y (Y c.k9 n).s6 i).jN 0 1||(u7 (O (Y (Y c.k9 n).s6 i).L8) 0&&(!u7 (Y (Y c.k9 n).s6 i).jN 0|| !u7 (Y (Y c.k9 n).s6 i).oV 0))) (And.intro (bv2 (Y c.k9 n) (Y (Y c.k9 n).s6 i).L8 ho hl) vz) (λh5=>?_) (λh5=>?_)
 .refine gr ?_
  exact ⟨_,rfl,by simp only [j3,Z,eo,h1,h2,h3,h4,h5,j4,if_true,if_false]⟩
 refine tc (!s7 (Y (Y c.k9 n).s6 i).oV 0 1048576||(!u7 (Y c.k9 n).cN 0&&F6 (Y c.k9 n).cN (Y (Y c.k9 n).s6 i).oV)||(u7 i 0&&F6 0 (O (Y (Y c.k9 n).s6 i).L8)&& !u7 (Y c.k9 n).erase 1)) vz (λh6=>?_) (λh6=>?_)
 .refine gr ?_
  exact ⟨_,rfl,by simp only [j3,Z,eo,h1,h2,h3,h4,h5,h6,j4,if_true,if_false]⟩
 refine tB ((!P8 (Y (Y c.k9 n).s6 i).refs []&&F6 0 (O (Y (Y c.k9 (gZ c (Y (Y c.k9 n).s6 i).refs n).toNat).s6 0).L8))&& !hasB (Y (Y c.k9 n).s6 i).L8 i) ?_ (λh7=>?_) (λh7=>?_)
 .repeat' (first|refine cl (ce2 (Y (Y c.k9 n).s6 i).L8 i ho) ?_|refine ixZ (hi:=⟨h3' hw,V⟩) (h2:=?_)|refine ixN (hi:=h3q hw) (h2:=?_)|refine gx ?_|refine fq (λhw=>?_) λhw=>?_|refine ⟨rfl,rfl,_,rfl,?_⟩|refine ⟨rfl,rfl⟩|fail)
  all_goals exact cc
 .refine gr ?_
  exact ⟨_,rfl,by simp only [j3,Z,eo,h1,h2,h3,h4,h5,h6,h7,j4,if_true,if_false]⟩
 refine gr ?_;exact ⟨_,rfl,by simp only [j3,Z,eo,h1,h2,h3,h4,h5,h6,h7,j4,if_true,if_false]⟩
def iX (c:s5)(n:Nat):Nat->Nat->Int
 |0,_=>0
 |k+1,i=>if !u7 (eo c n i) 0 then eo c n i else iX c n k (i+1)
def iL (c:s5)(n:Nat):Int :=
 if !s7 (O (Y c.k9 n).s6) 1 8|| !s7 (Y c.k9 n).erase 0 1|| !s7 (Y c.k9 n).cN 0 1048576 then 1 else iX c n (O (Y c.k9 n).s6) 0
structure s5.small (c:s5):Prop where
 oW:c.oW
 s6:∀n,n<O c.k9->O (Y c.k9 n).s6<=1000
 L8:∀n i,n<O c.k9->i<O (Y c.k9 n).s6->O (Y (Y c.k9 n).s6 i).L8<=1000
def cd8 (c:s5)(n:Nat)(hf:s5.small c)(hn:n<O c.k9)(hp:∀m,m<n->0<O (Y c.k9 m).s6):Pf A 144 [cat c,.d (Z n)] (.d (Z (iL c n))):=by
 have hl:=hf.s6 n hn;refine Pf.gr 5 ?_;refine tc (!s7 (O (Y c.k9 n).s6) 1 8|| !s7 (Y c.k9 n).erase 0 1|| !s7 (Y c.k9 n).cN 0 1048576) vz (λh1=>?_) (λh1=>?_)
 .refine gr ?_
  exact ⟨_,rfl,by simp only [j3,Z,iL,h1,if_true]⟩
 refine gr ?_;refine Ex.aY (λk T H=>∃(i:Nat) (v w z:c8),T=[v,.d (Z n),.ptr 0 0,w,.ptr 1 0,.d (Z i),z]/\H=[.cells (c.enc.map .d),.cells ((Y c.k9 n).enc.map .d)]/\i+k=O (Y c.k9 n).s6/\iL c n=iX c n k i) ?_ (k:=O (Y c.k9 n).s6) ⟨0,_,_,_,rfl,rfl,U,by simp only [iL,h1,j4,if_false]⟩;rintro k _ _ ⟨i,v,w,z,rfl,rfl,hk,hi⟩;refine Ex.nT ?_;refine Ex.seq ?_;refine tb (F6 i (O (Y c.k9 n).s6)) (λh2=>?_) (λh2=>?_)
 .have h3:=C4 h2
  obtain ⟨k,rfl⟩:∃k',k=k' +1:=⟨k - 1,V⟩
  repeat' (first|refine cl (ce5 c n i hf.oW hn V hl (hf.L8 n i hn V) hp) ?_|refine gy ?_|refine ft (λht=>?_) λht=>?_|refine ⟨_,rfl,?_⟩|fail)
  .simp [j3,hi,iX,ht]
  .exact ⟨k,V,i+1,_,_,_,rfl,rfl,V,by simp [hi,iX,ht]⟩
 .have h3:=B5 h2
  obtain rfl:k=0:=V
  refine gr ?_;exact ⟨_,rfl,by simp [j3,hi,iX,Z]⟩
def mV (v:Vw):Bool:=(!P8 v.right []||u7 (O v.on) 0)&&cg (O v.on) 8&&cg (O v.items+O v.F4) 8
def cn (v:Vw):Bool :=
 if u7 v.kind 2 then !P8 v.right []&&u7 (O v.on) 0&&u7 (O v.wh) 0&&u7 (O v.items) 0&&u7 (O v.F4) 0&& !v.distinct
 else if u7 v.kind 0 then !(u7 (O v.items) 0||F6 0 (O v.F4))&&mV v
 else !(u7 (O v.F4) 0||v.distinct)&&mV v
def vw (v:Vw):c8:= .agg (v.enc.map .d)
set_option maxHeartbeats 8000000 in
def ce6 (c:s5)(v:Vw)(h0:O v.items<=1000)(h1:O v.F4<=1000):Pf A 200 [cat c,vw v] (.d (.bool (cn v))):=by
 refine Pf.go 3 ?_
 repeat' (first|refine gy ?_|refine fq (λhw=>?_) λhw=>?_|refine ⟨_,rfl,?_⟩|fail)
 all_goals first|(simp [*,j3,cn,mV];done)|(simp_all [j3,cn,mV];done)|(simp_all [j3,cn,mV,s9,s8,o8,D2];done)|(simp_all [j3,cn,mV,s9,s8,o8,D2]<;>omega)
def Q7 (l r:List Int):List (Int×Int)->Int
 |[]=>0
 |p::ps=>if !s7 p.1 0 (O l - 1)|| !s7 p.2 0 (O r - 1) then 3 else if !u7 (Y l p.1.toNat) (Y r p.2.toNat) then 5 else Q7 l r ps
def ce8 (on:List (Int×Int))(l r:List Int)(h0:O on<=1000)(h1:O l<=100000)(h2:O r<=100000):Pf A 202 [.d (C6 (λp=>[Z p.1,Z p.2]) on),.d (ints l),.d (ints r)] (.d (Z (Q7 l r on))):=by
 refine Pf.gr 2 ?_;refine Ex.T9 (λk T H=>∃(i:Nat),T=[.d (C6 (λp=>[Z p.1,Z p.2]) on),.d (ints l),.d (ints r),.any,.d (Z i)]/\H=[]/\i+k=O on/\Q7 l r on=Q7 l r (on.drop i)) ?_ (k:=O on) ⟨0,rfl,rfl,U,U⟩;rintro k _ _ ⟨i,rfl,rfl,hk,hi⟩;refine Ex.seq ?_;refine tl i (O on) (λh4=>?_) (λh4=>?_)
 .rw [E0 V] at hi
  refine gr ?_;refine tc (!s7 (Y on i).1 0 (O l - 1)|| !s7 (Y on i).2 0 (O r - 1)) vz (λh5=>?_) (λh5=>?_)
  .refine gr ?_
   exact ⟨_,rfl,by simp only [j3,Z,hi,Q7,h5,if_true]⟩
  have h6:=h5;simp [s7,s8] at h6
  repeat' (first|refine gy ?_|refine ft (λht=>?_) λht=>?_|refine ⟨_,rfl,?_⟩|fail)
  .simp only [j3,Z,hi,Q7,h5,ht,j4,if_true,if_false]
  .exact kk ⟨i+1,rfl,rfl,V,by simp only [hi,Q7,h5,ht,j4,if_false]⟩
 .rw [n9 V] at hi
  refine gr ?_;exact ⟨_,rfl,by simp [j3,hi,Q7,Z]⟩
end Go.Proofs.YtibjocmpkoepoaaGreat

