import Derived.Test.YtibjocmpkoepoaaGreatAbs
set_option linter.all false
open Bool renaming and_eq_true→c9,false_eq_true→j5,not_eq_false'→C5,not_eq_true'→o5,or_eq_false_iff→D5,true→W,false→F
open List renaming append_assoc→K2,drop_of_length_le→n5,length_append→l5,take_of_length_le→A4,length→O
open Nat renaming lt_or_ge→A7
open Option renaming some→J,none→K
namespace Go.Proofs.YtibjocmpkoepoaaGreat
open Go.A5 Go.A5.S
attribute [local irreducible] Rx Ry Rn Ex Pf
def ep (n:Int):Bool:=aH 97 n&&aH n 122
def nI (n:Int):Bool:=aH 48 n&&aH n 57
def nO (n:Int):Bool:=ep n||nI n||x5 n 95
def M3:K0->Bool
 |[]=>F
 |c::r=>F0 (O r) 16&&ep c.toNat&&(c::r).all λc=>nO c.toNat
def aL8 (n:Int):Pf A 197 [.d (.int .u8 n)] (.d (.bool (ep n))):=by
 refine Pf.go 1 ?_
 repeat' (first|refine gy ?_|refine fq (λhw=>?_) λhw=>?_|refine ⟨_,rfl,?_⟩|fail)
 all_goals simp_all [j4,ep]
def aJ2 (n:Int):Pf A 244 [.d (.int .u8 n)] (.d (.bool (nI n))):=by
 refine Pf.go 1 ?_
 repeat' (first|refine gy ?_|refine fq (λhw=>?_) λhw=>?_|refine ⟨_,rfl,?_⟩|fail)
 all_goals simp_all [j4,nI]
def bs4 (n:Int):Pf A 198 [.d (.int .u8 n)] (.d (.bool (nO n))):=by
 refine Pf.go 1 ?_
 repeat' (first|refine cl (aL8 _) ?_|refine cl (aJ2 _) ?_|refine gy ?_|refine fq (λhw=>?_) λhw=>?_|refine ⟨_,rfl,?_⟩|fail)
 all_goals simp_all [j4,nO]
def ar5 (s:K0):Pf A 143 [.d (.str s)] (.d (.bool (M3 s))):=by
 refine Pf.gr 2 ?_;refine Ex.gw (match s with|[]=>W|c::r=> !(F0 (O r) 16&&ep c.toNat)) (Rn.text ?_) (λht=>?_) (λht=>?_)
 .repeat' (first|refine cl (aL8 _) ?_|refine gx ?_|refine fq (λhw=>?_) λhw=>?_|refine ⟨rfl,rfl,_,rfl,?_⟩|refine ⟨rfl,rfl⟩|fail)
  all_goals cases s
  all_goals first|(simp [*,j4,T8];done)|(simp_all [j4,T8];done)|(simp_all [j4,T8,A1,x8,o9,I9];done)|(simp_all [j4,T8,A1,x8,o9,I9]<;>omega)
 .refine gr ?_
  refine ⟨_,rfl,?_⟩;cases s with
  |nil=>rfl
  |cons c r =>
   simp only [o5] at ht;simp only [M3,ht,j4,Bool.false_and]
 .cases s with
  |nil=>cases ht
  |cons c r =>
  have hl:=ht;simp [A1] at hl;have hb:O (c::r)<=16:=D
  refine gr ?_;refine Ex.M4 (λk T H=>∃(i:Nat),T=[.d (.str (c::r)),.any,.d (.int .i64 i)]/\H=[]/\i+k=O (c::r)/\M3 (c::r)=((c::r).drop i).all λc=>nO c.toNat) ?_ (k:=O (c::r)) ⟨0,rfl,rfl,U,by simp [M3,hl,A1]⟩;rintro k _ _ ⟨i,rfl,rfl,hk,hi⟩
  repeat' (first|refine cl (bs4 _) ?_|refine gy ?_|refine ft (λht=>?_) λht=>?_|refine ⟨_,rfl,?_⟩|fail)
  .simp only [o5] at ht
   simp only [j4];have h1:=C8 ‹_›;rw [hi,D8 V];simp [ht]
  .have h1:=C8 ‹_›
   rw [D8 V] at hi;simp only [C5] at ht;refine kk ⟨i+1,rfl,rfl,V,?_⟩;rw [hi];simp [ht]
  .have h1:=D4 ‹_›
   rw [n5 V] at hi;simp [hi,j4]
def tE (n a b:Int):Pf A 111 [.d (Z n),.d (Z a),.d (Z b)] (.d (.bool (s4 n a b))):=by
 refine Pf.go 1 ?_
 repeat' (first|refine gy ?_|refine fq (λhw=>?_) λhw=>?_|refine ⟨_,rfl,?_⟩|fail)
 all_goals first|(simp [*,j4,s4];done)|(simp_all [j4,s4];done)|(simp_all [j4,s4,A1,x8,o9,I9];done)|(simp_all [j4,s4,A1,x8,o9,I9]<;>omega)
def pZ (n a b:Int):Pf A 210 [.d (Z n),.d (Z a),.d (Z b)] (.d (.bool (s4 n a b))):=by
 refine Pf.go 1 ?_
 repeat' (first|refine gy ?_|refine fq (λhw=>?_) λhw=>?_|refine ⟨_,rfl,?_⟩|fail)
 all_goals first|(simp [*,j4,s4];done)|(simp_all [j4,s4];done)|(simp_all [j4,s4,A1,x8,o9,I9];done)|(simp_all [j4,s4,A1,x8,o9,I9]<;>omega)
def aJ6 (n:Int):Pf A 250 [.d (Z n)] (.d (.bool (x5 n 1||x5 n 2))):=by
 refine Pf.go 1 ?_
 repeat' (first|refine gy ?_|refine fq (λhw=>?_) λhw=>?_|refine ⟨_,rfl,?_⟩|fail)
 all_goals exact cc
def ints (l:List Int):A5.Data:=y6 (λn=>[Z n]) l
def hasB (l:List Int)(n:Int):Bool:=l.any λx=>x5 x n
def bs2 (xs:List Int)(n:Int)(hx:O xs<=1000):Pf A 246 [.d (ints xs),.d (Z n)] (.d (.bool (hasB xs n))):=by
 refine Pf.gr 2 ?_;refine Ex.M4 (λk T H=>∃(i:Nat),T=[.d (ints xs),.d (Z n),.any,.d (Z i)]/\H=[]/\i+k=O xs/\hasB xs n=(xs.drop i).any λx=>x5 x n) ?_ (k:=O xs) ⟨0,rfl,rfl,U,by simp [hasB]⟩;rintro k _ _ ⟨i,rfl,rfl,hk,hi⟩
 repeat' (first|refine gy ?_|refine ft (λht=>?_) λht=>?_|refine ⟨_,rfl,?_⟩|fail)
 .have h1:=C8 ‹F0 i _=W›
  rw [D8 V] at hi;simp [hi,ht,j4]
 .have h1:=C8 ‹F0 i _=W›
  rw [D8 V] at hi;exact kk ⟨i+1,rfl,rfl,V,by simp [hi,ht]⟩
 .have h1:=D4 ht
  rw [n5 V] at hi;simp [hi,j4]
def gu {α:Type}(eq:α->α->Bool):List α->List α->Bool
 |[],[]=>W
 |a::l,c::m=>eq a c&&gu eq l m
 |_,_=>F
theorem qV {α:Type}{eq:α->α->Bool}:∀{l m:List α},O l≠O m->gu eq l m=F
 |[],[],h=>absurd rfl h
 |[],_::_,_=>rfl
 |_::_,[],_=>rfl
 |a::l,c::m,h=>by simp only [gu,qV (l:=l) (m:=m) (by simpa using h),Bool.and_false]
def bs7 (xs ys:List Int)(hx:O xs<=100000):Pf A 201 [.d (ints xs),.d (ints ys)] (.d (.bool (gu x5 xs ys))):=by
 refine Pf.go 2 ?_
 repeat' (first|refine gy ?_|refine ft (λht=>?_) λht=>?_|refine ⟨_,rfl,?_⟩|fail)
 .have h1:O xs≠O ys:=by simp [o9] at ht;omega
  simp [qV h1,j4]
 have hl:O xs=O ys:=by simp [o9] at ht;omega
 refine Ex.M4 (λk T H=>∃(i:Nat),T=[.d (ints xs),.d (ints ys),.any,.d (Z i)]/\H=[]/\i+k=O xs/\gu x5 xs ys=gu x5 (xs.drop i) (ys.drop i)) ?_ (k:=O xs) ⟨0,rfl,rfl,U,U⟩;rintro k _ _ ⟨i,rfl,rfl,hk,hi⟩
 repeat' (first|refine gy ?_|refine ft (λht=>?_) λht=>?_|refine ⟨_,rfl,?_⟩|fail)
 .have h1:=C8 ‹F0 i _=W›
  rw [D8 V,D8 (l:=ys) V] at hi;simp only [o5] at ht;simp [hi,gu,ht,j4]
 .have h1:=C8 ‹F0 i _=W›
  rw [D8 V,D8 (l:=ys) V] at hi;simp only [C5] at ht;exact kk ⟨i+1,rfl,rfl,V,by simp [hi,gu,ht]⟩
 .have h1:=D4 ht
  rw [n5 V,n5 V] at hi;simp [hi,gu,j4]
def aI9 (xs ys:List Int)(hx:O xs<=100000):Pf A 218 [.d (ints xs),.d (ints ys)] (.d (.bool (gu x5 xs ys))):=by
 refine Pf.go 4 ?_
 repeat' (first|refine gy ?_|refine ft (λht=>?_) λht=>?_|refine ⟨_,rfl,?_⟩|fail)
 .have h1:O xs≠O ys:=by simp [o9] at ht;omega
  simp [qV h1,j4]
 have hl:O xs=O ys:=by simp [o9] at ht;omega
 refine Ex.M4 (λk T H=>∃(i:Nat),T=[.d (ints xs),.d (ints ys),.any,.any,.d (Z (O xs)),.d (Z i)]/\H=[]/\i+k=O xs/\gu x5 xs ys=gu x5 (xs.drop i) (ys.drop i)) ?_ (k:=O xs) ⟨0,rfl,rfl,U,U⟩;rintro k _ _ ⟨i,rfl,rfl,hk,hi⟩
 repeat' (first|refine gy ?_|refine ft (λht=>?_) λht=>?_|refine ⟨_,rfl,?_⟩|fail)
 .have h1:=C8 ‹F0 i _=W›
  rw [D8 V,D8 (l:=ys) V] at hi;simp only [o5] at ht;simp [hi,gu,ht,j4]
 .have h1:=C8 ‹F0 i _=W›
  rw [D8 V,D8 (l:=ys) V] at hi;simp only [C5] at ht;exact kk ⟨i+1,rfl,rfl,V,by simp [hi,gu,ht]⟩
 .have h1:=D4 ht
  rw [n5 V,n5 V] at hi;simp [hi,gu,j4]
def val (k n:Int)(s:K0):c7:= .agg [.d (Z k),.d (Z n),.d (.str s)]
def trm (t:X0):c7:= .agg (t.enc.map .d)
set_option maxHeartbeats 2000000 in
def aL1 (k n:Int)(s:K0):Pf A 228 [val k n s] (.d (.bool (iW k n s))):=by
 refine Pf.go 3 ?_
 repeat' (first|refine gy ?_|refine fq (λhw=>?_) λhw=>?_|refine ⟨_,rfl,?_⟩|fail)
 all_goals first|(simp [*,j4,iW];done)|(simp_all [j4,iW];done)|(simp_all [j4,iW,A1,x8,o9,I9];done)|(simp_all [j4,iW,A1,x8,o9,I9]<;>omega)
set_option maxHeartbeats 2000000 in
def aL2 (k n:Int)(s:K0):Pf A 303 [val k n s] (.d (.bool (iW k n s))):=by
 refine Pf.go 3 ?_
 repeat' (first|refine gy ?_|refine fq (λhw=>?_) λhw=>?_|refine ⟨_,rfl,?_⟩|fail)
 all_goals first|(simp [*,j4,iW];done)|(simp_all [j4,iW];done)|(simp_all [j4,iW,A1,x8,o9,I9];done)|(simp_all [j4,iW,A1,x8,o9,I9]<;>omega)
set_option maxHeartbeats 2000000 in
def af2 (t:X0):Pf A 272 [trm t] (.d (.bool (eo t))):=by
 refine Pf.go 3 ?_
 repeat' (first|refine cl (aL1 _ _ _) ?_|refine gy ?_|refine fq (λhw=>?_) λhw=>?_|refine ⟨_,rfl,?_⟩|fail)
 all_goals first|(simp [*,j4,eo,zeroV];done)|(simp_all [j4,eo,zeroV];done)|(simp_all [j4,eo,zeroV,A1,x8,o9,I9];done)|(simp_all [j4,eo,zeroV,A1,x8,o9,I9]<;>omega)
set_option maxHeartbeats 2000000 in
def Pj (op:Int):Pf A 141 [.d (Z op)] (.d (Z (nA op))):=by
 refine Pf.go 4 ?_
 repeat' (first|refine gy ?_|refine fq (λhw=>?_) λhw=>?_|refine ⟨_,rfl,?_⟩|fail)
 all_goals first|(simp [*,j4,nA,Z];done)|(simp_all [j4,nA,Z];done)|(simp_all [j4,nA,Z,A1,x8,o9,I9];done)|(simp_all [j4,nA,Z,A1,x8,o9,I9]<;>omega)
set_option maxHeartbeats 8000000 in
def VB (op:Int):Pf A 290 [.d (Z op)] (.d (Z (nA op))):=by
 refine Pf.go 5 ?_
 repeat' (first|refine gy ?_|refine fq (λhw=>?_) λhw=>?_|refine ⟨_,rfl,?_⟩|fail)
 all_goals first|(simp [*,j4,nA,Z];done)|(simp_all [j4,nA,Z];done)|(simp_all [j4,nA,Z,A1,x8,o9,I9];done)|(simp_all [j4,nA,Z,A1,x8,o9,I9]<;>omega)
def gW (e:List X0):c7:= .d (y6 X0.enc e)
def sX (e:List X0)(d p:Nat):Int:=match P0 d (e.drop p) with
 |none=> -1
 |some (_,r)=>((O e - O r:Nat):Int)
def GZ (e:List X0)(d k p:Nat):Int:=match ga (P0 d) k (e.drop p) with
 |none=> -1
 |some (_,r)=>((O e - O r:Nat):Int)
def RR {e:List X0}{d p:Nat}(hp:p<O e)(h:Aj (Y e p)=W):sX e (d+1) p=GZ e d (nA (Y e p).op).toNat (p+1):=by
 simp only [sX,GZ];rw [D8 hp,P0,h,if_pos rfl];cases ga (P0 d) (nA (Y e p).op).toNat (e.drop (p+1)) with
 |none=>rfl
 |some x=>rfl
def Er {e:List X0}{d p:Nat}(h:O e<=p\/d=0\/Aj (Y e p)=F):sX e d p= -1:=by
 simp only [sX]
 rcases h with h|h|h
 .rw [n5 h]
  cases d<;>rfl
 .subst h;rfl
 .rcases A7 p (O e) with hp|hp
  .rw [D8 hp]
   cases d with
   |zero=>rfl
   |succ d=>rw [P0,h,if_neg U]
  .rw [n5 hp]
   cases d<;>rfl
def sY (e:List X0)(d p:Nat):(sX e d p= -1/\P0 d (e.drop p)=K)\/∃q:Nat,sX e d p=q/\q<=O e/\p<=q/\∃a,P0 d (e.drop p)=J (a,e.drop q):=by
 simp only [sX];cases h:P0 d (e.drop p) with
 |none=>exact Or.inl ⟨rfl,rfl⟩
 |some x =>
  obtain ⟨a,r⟩:=x;right;obtain ⟨h1,_,_⟩:=V2 d _ a r h;have h2:O r<=O e - p:=by
   have:=congrArg List.length h1;simp at this;omega
  have h4:p<=O e:=by
   rcases A7 (O e) p with hp|hp
   .rw [n5 V] at h1
    have:=congrArg List.length h1;have:=jQ a;simp at *
    omega
   .exact hp
  refine ⟨O e - O r,rfl,V,V,a,?_⟩;have h3:e.drop (O e - O r)=r:=by
   have h5:e=(e.take p++a.flat)++r:=by rw [K2,<- h1,List.take_append_drop]
   conv=>lhs;rw [h5]
   rw [List.drop_append_of_le_length D,n5 D];rfl
  rw [h3]
def RQ {e:List X0}{d k p:Nat}:GZ e d (k+1) p=if F0 (sX e d p) 0 then -1 else GZ e d k (sX e d p).toNat:=by
 rcases sY e d p with ⟨h1,h2⟩|⟨q,h1,_,_,a,h2⟩
 .rw [h1,if_pos (by simp [A1])]
  simp only [GZ,ga,h2]
 .rw [h1,if_neg (by simp [A1])]
  simp only [GZ,ga,h2,Int.toNat_natCast];cases ga (P0 d) k (e.drop q) with
  |none=>rfl
  |some x=>rfl
set_option maxHeartbeats 2000000 in
def af1 (e:List X0)(he:O e<=1000):∀d p:Nat,d<=100->p<=2000->Pf A 229 [gW e,.d (Z p),.d (Z d)] (.d (Z (sX e d p))):=by
 intro d
 induction d with
 |zero =>
  intro p _ hp;refine Pf.run [gW e,.d (Z p),.d (Z (0:Nat)),.any,.any,.any] rfl rfl rfl rfl ?_;refine gr ?_;refine tc (W) (And.intro Pj af2) (λh1=>?_) (λh1=>?_)
  .refine gr ?_
   exact ⟨_,rfl,by rw [Er (Or.inr (Or.inl rfl))];rfl⟩
  .cases h1
 |succ d ih =>
  intro p hd hp;refine Pf.run [gW e,.d (Z p),.d (Z (d+1:Nat)),.any,.any,.any] rfl rfl rfl rfl ?_;refine gr ?_;refine tB (aH (O e) p|| !Aj (Y e p)) ?_ (λh1=>?_) (λh1=>?_)
  .repeat' (first|refine cl (Pj _) ?_|refine cl (af2 _) ?_|refine gx ?_|refine fq (λhw=>?_) λhw=>?_|refine ⟨rfl,rfl,_,rfl,?_⟩|refine ⟨rfl,rfl⟩|fail)
   all_goals first|(simp [*,j4,Aj];done)|(simp_all [j4,Aj];done)|(simp_all [j4,Aj,A1,x8,o9,I9];done)|(simp_all [j4,Aj,A1,x8,o9,I9]<;>omega)
  .refine gr ?_
   refine ⟨_,rfl,?_⟩;rw [Er]
   .rfl
   .simp only [Bool.or_eq_true,o5] at h1
    rcases h1 with h|h
    .have:=kM h;left;omega
    .exact Or.inr (Or.inr h)
  simp only [D5,C5] at h1;have h2:=rR h1.1;have h3:=qL (Y e p).op;have h4:0<=nA (Y e p).op:=by
   have:=h1.2;simp only [Aj,c9,o5] at this;exact D4 this.1
  refine gc Pj ?_;refine Ex.fh (λk T H=>∃(i q:Nat) (v:c7),T=[gW e,.d (Z q),.d (Z (d+1:Nat)),v,.d (Z (nA (Y e p).op)),.d (Z i)]/\H=[]/\(i:Int)+k=nA (Y e p).op/\q<=O e/\sX e (d+1) p=GZ e d k q) ?_ (k:=(nA (Y e p).op).toNat) ⟨0,p+1,_,rfl,rfl,V,V,RR V h1.2⟩;rintro k _ _ ⟨i,q,v,rfl,rfl,hk,hq,hi⟩;refine Ex.nT ?_;refine Ex.seq ?_;refine tl i (nA (Y e p).op) (λh6=>?_) (λh6=>?_)
  .obtain ⟨k,rfl⟩:∃k',k=k' +1:=⟨k - 1,V⟩
   refine gr ?_;refine cl (ih q V V) ?_ (ha:=by rw [show (d:Int)=((d+1:Nat):Int) - 1 by omega];rfl);rw [RQ] at hi
   rcases sY e d q with ⟨e1,_⟩|⟨q',e1,e2,_,_,_⟩
   .rw [e1] at hi ⊢
    have e3:F0 (-1) 0=W:=by simp [A1]
    rw [e3,if_pos rfl] at hi;refine gr ?_;refine tb (W) (λh7=>?_) (λh7=>?_)
    .refine gr ?_
     exact ⟨_,rfl,by rw [hi];rfl⟩
    .cases h7
   .rw [e1] at hi ⊢
    have e3:F0 (q' :Int) 0=F:=by simp [A1]
    rw [e3,if_neg U] at hi;refine gr ?_;refine tb (F) (λh7=>?_) (λh7=>?_)
    .cases h7
    refine gr ?_;exact ⟨k,V,i+1,q',_,rfl,rfl,V,V,hi⟩
  .obtain rfl:k=0:=V
   refine gr ?_;refine ⟨_,rfl,?_⟩;have h8:GZ e d 0 q=q:=by simp only [GZ,ga,List.length_drop];omega
   rw [hi,h8];rfl
def aW (e:List X0):Bool:=aH 1 (O e)&&aH (O e) 64&&x5 (sX e 16 0) (O e)
def aJ4 (e:List X0)(he:O e<=1000):Pf A 170 [gW e] (.d (.bool (aW e))):=by
 refine Pf.go 1 ?_
 repeat' (first|refine cl (af1 e he 16 0 V V) ?_|refine gy ?_|refine fq (λhw=>?_) λhw=>?_|refine ⟨_,rfl,?_⟩|fail)
 all_goals first|(simp [*,j4,aW];done)|(simp_all [j4,aW];done)|(simp_all [j4,aW,A1,x8,o9,I9];done)|(simp_all [j4,aW,A1,x8,o9,I9]<;>omega)
theorem gX (e:List X0):aW e=(gY e).isSome:=by
 unfold aW gY;cases h:(aH 1 (O e)&&aH (O e) 64) with
 |false=>rfl
 |true =>
  simp only [if_true,Bool.true_and];simp only [c9] at h;have hl:=kM h.1;simp only [sX,List.drop_zero];cases h1:P0 16 e with
  |none =>
   simp only [Option.isSome_none,o9];simp
  |some x =>
   obtain ⟨a,r⟩:=x;obtain ⟨h2,_,_⟩:=V2 16 e a r h1;have h3:O a.flat+O r=O e:=by rw [h2];simp
   have h4:=jQ a;cases r with
   |nil=>simp [o9]
   |cons t r=>simp [o9] at *;omega
def at2 (l:List bF):c7:= .d (y6 (λx=>[y6 X0.enc x]) (l.map bF.flat))
def MR {e:List X0}{p:Nat}{a:bF}{l:List bF}(h:e.drop p=O2 (a::l)):e.drop (p+O a.flat)=O2 l/\(e.take (p+O a.flat)).drop p=a.flat:=by
 constructor
 .rw [<- List.drop_drop,h,O2,List.drop_left]
 .rw [List.drop_take,h,Nat.add_sub_cancel_left,O2,List.take_left]
set_option maxHeartbeats 2000000 in
def aK2 (t:X0)(l:List bF)(he:O (t::O2 l)<=1000)(hw:Ya l)(hd:nG l<=16):Pf A 230 [gW (t::O2 l)] (at2 l):=by
 refine Pf.gr 4 ?_;refine Ex.fh (λk T H=>∃(p:Nat) (l1 l2:List bF) (v w:c7),T=[gW (t::O2 l),v,B9 1 (λx=>[y6 X0.enc x]) (l1.map bF.flat),.d (Z p),w]/\H=[]/\k=O l2/\l=l1++l2/\p<=O (t::O2 l)/\(t::O2 l).drop p=O2 l2/\Ya l2/\nG l2<=16) ?_ (k:=O l) ⟨1,[],l,_,_,rfl,rfl,rfl,rfl,U,rfl,hw,hd⟩;rintro k _ _ ⟨p,l1,l2,v,w,rfl,rfl,hk,hl,hp,hp2,Sj,hd2⟩;have hlen:=wA l;have YI:O l1<=1000:=by
  have:=congrArg List.length hl;simp at this he;omega
 have uy:O (O2 l2)+p=O (t::O2 l):=by rw [<- hp2];simp at hp ⊢;omega
 refine Ex.nT ?_;refine Ex.seq ?_;refine tb (F0 p (O (t::O2 l))) (λh1=>?_) (λh1=>?_)
 .have h2:=C8 h1
  cases l2 with
  |nil=>simp [O2] at uy h2;omega
  |cons a l2 =>
  have h3:=MR hp2;have h4:sX (t::O2 l) 16 p=((p+O a.flat:Nat):Int):=by
   simp only [nG] at hd2;simp only [sX,hp2,O2];rw [aq a 16 (O2 l2) Sj.1 V];simp only [O2,l5] at uy;simp only;omega
  have h5:=af1 (t::O2 l) he 16 p V V;rw [h4] at h5;simp only [O2,l5] at uy;refine gc h5 ?_;refine ⟨O l2,by simp at hk;omega,p+O a.flat,l1++[a],l2,.any,.d (Z (p+O a.flat:Nat)),by rw [h3.2];simp [B9],rfl,rfl,by simp [hl],V,h3.1,Sj.2,by simp only [nG] at hd2;omega⟩
 .have h2:=D4 h1
  cases l2 with
  |cons a l2 =>
   have:=jQ a;simp only [O2,l5] at uy;omega
  |nil =>
  refine gr ?_;refine ⟨_,rfl,?_⟩;simp at hl;subst hl;rfl
def JU (op:Int)(k:Nat):Prop:=(op=3\/op=9\/op=13\/op=16)/\k=1\/op=18/\k=3\/4<=op/\op<=17/\op≠9/\op≠13/\op≠16/\k=2
def Vo {t:X0}{k:Nat}(h:Aj t=W)(hk:(nA t.op).toNat=k)(h1:x5 t.op 1=F)(h2:x5 t.op 2=F):JU t.op k:=by
 simp only [Aj,c9,o5] at h;have h3:=D4 h.1;simp only [nA,h1,h2,Bool.or_self,j5,if_false,Bool.or_eq_true,c9] at h3 hk;unfold JU;split at h3
 next h4=>
  rw [if_pos h4] at hk;simp [o9] at h4 hk;left;omega
 next h4=>
  rw [if_neg h4] at hk;simp [o9] at h4 h1 h2;split at h3
  next h5=>
   rw [if_pos h5] at hk;simp [o9] at h5 hk;right;left;omega
  next h5=>
   rw [if_neg h5] at hk;simp [o9] at h5;split at h3
   next h6=>
    rw [if_pos h6] at hk;simp [x8] at h6 hk;right;right;omega
   .omega
set_option maxHeartbeats 16000000 in
def aK3 (op:Int)(t:List Int)(h:JU op (O t)):Pf A 231 [.d (Z op),.d (ints t)] (.d (Z (iV op t))):=by
 unfold JU at h;refine Pf.go 7 ?_
 repeat' (first|refine gy ?_|refine fq (λhw=>?_) λhw=>?_|refine ⟨_,rfl,?_⟩|fail)
 all_goals first|(simp [*,j4,iV,Z];done)|(simp_all [j4,iV,Z];done)|(simp_all [j4,iV,Z,A1,x8,o9,I9];done)|(simp_all [j4,iV,Z,A1,x8,o9,I9]<;>omega)
def Zn {α:Type} [Inhabited α] (l1:List α)(a:α)(l2:List α):Y (l1++a::l2) (O l1)=a:=by
 rw [F9 U];simp
theorem Bf {a:bF}:∀{l:List bF},a∈l->O a.flat<=O (O2 l)
 |b::l,h=>by
  simp only [O2,l5]
  rcases List.mem_cons.1 h with rfl|h
  .omega
  .have:=Bf h;omega
theorem NT {a:bF}:∀{l:List bF},Ya l->a∈l->a.wf
 |b::l,hw,h=>by
  rcases List.mem_cons.1 h with rfl|h
  .exact hw.1
  .exact NT hw.2 h
theorem Oz {a:bF}:∀{l:List bF},a∈l->a.dep<=nG l
 |b::l,h=>by
  simp only [nG]
  rcases List.mem_cons.1 h with rfl|h
  .omega
  .have:=Oz h;omega
set_option maxHeartbeats 4000000 in
def aJ5 (ty:List Int):∀(n:Nat) (a:bF),O a.flat<=n->n<=1000->a.wf->a.dep<=16->Pf A 171 [gW a.flat,.d (ints ty)] (.tuple [.d (Z (a.typ ty).1),.d (Z (a.typ ty).2)]):=by
 intro n
 induction n with
 |zero=>intro a h;have:=jQ a;omega
 |succ n ih =>
 rintro ⟨t,l⟩ hn hn2 hw hd;simp only [bF.flat] at hn ⊢;simp only [bF.dep] at hd;have hle:O (t::O2 l)<=1000:=V
 have hpos:0<O (t::O2 l):=U
 have h0:Y (t::O2 l) 0=t:=T8 _ _;obtain ⟨hok,har,Mq⟩:=hw;have hll:=wA l;have hl3:O l<=3:=by have:=qL t.op;omega
 refine Pf.run [gW (t::O2 l),.d (ints ty),.any,.any,.any,.any,.any,.any,.any,.any,.any] rfl rfl rfl rfl ?_;refine gr ?_;rw [h0];have YF:x5 t.op 2=W->x5 t.op 1=F->0<=t.col:=λh h' =>by
  simp only [Aj,eo,h,h',if_true,j5,if_false,c9] at hok;exact kM hok.2.2
 have hl0:(x5 t.op 1||x5 t.op 2)=W->l=[]:=λh=>by
  have:nA t.op=0:=by unfold nA;rw [h,if_pos rfl]
  rw [this] at har;cases l with
  |nil=>rfl
  |cons a l=>simp at har
 refine tb (x5 t.op 1) (λh1=>?_) (λh1=>?_)
 .refine gr ?_
  refine ⟨_,rfl,?_⟩;rw [hl0 (by simp [h1])];simp [j4,bF.typ,iH,Cm,h1,o9,Z,c7.K9,T8]
 refine gr ?_;refine tb (x5 t.op 2) (λh2=>?_) (λh2=>?_)
 .have hc:=YF h2 h1
  have hll:=hl0 (by simp [h2]);refine gr ?_;refine tB (aH (O ty) t.col) ?_ (λh3=>?_) (λh3=>?_)
  .repeat' (first|refine gx ?_|refine fq (λhw=>?_) λhw=>?_|refine ⟨rfl,rfl,_,rfl,?_⟩|refine ⟨rfl,rfl⟩|fail)
   all_goals first|(simp [*,j4,T8];done)|(simp_all [j4,T8];done)|(simp_all [j4,T8,A1,x8,o9,I9];done)|(simp_all [j4,T8,A1,x8,o9,I9]<;>omega)
  .refine gr ?_
   refine ⟨_,rfl,?_⟩;rw [hll];simp [j4,bF.typ,iH,Cm,h1,h2,h3,o9,Z,c7.K9]
  .have h4:=rR h3
   refine gr ?_;rw [h0];refine gr ?_;refine ⟨_,rfl,?_⟩;rw [hll];simp [j4,bF.typ,iH,Cm,h1,h2,h3,o9,Z,c7.K9]
 have hfit:=Vo hok har h1 h2;refine gc (aK2 t l hle Mq V) ?_;refine Ex.fh (λk T H=>∃(i:Nat) (l1 l2:List bF) (ts:List Int) (v2 v3 v7 v8 v9 v10:c7),T=[gW (t::O2 l),.d (ints ty),v2,v3,B9 1 (λn=>[Z n]) ts,at2 l,.d (Z i),v7,v8,v9,v10]/\H=[]/\i=O l1/\k=O l2/\l=l1++l2/\O ts=O l1/\(iH ty l).1=ts++(iH ty l2).1/\(iH ty l).2=(iH ty l2).2) ?_ (k:=O l) ⟨0,[],l,[],_,_,_,_,_,_,rfl,rfl,rfl,rfl,rfl,rfl,rfl,rfl⟩;rintro k _ _ ⟨i,l1,l2,ts,v2,v3,v7,v8,v9,v10,rfl,rfl,Df,hk,hl,hts,e1,e2⟩;have hlen:O l=O l1+O l2:=by rw [hl];simp
 refine Ex.nT ?_;refine Ex.seq ?_;unfold at2;refine tl i (O l) (λh4=>?_) (λh4=>?_)
 .cases l2 with
  |nil=>simp at hlen;omega
  |cons a l2 =>
  have hm:Y (l.map bF.flat) i=a.flat:=by
   have:=Zn (l1.map bF.flat) a.flat (l2.map bF.flat);rw [hl,Df];simpa using this
  have ha:a∈l:=by rw [hl];simp
  have hp:=ih a (by have:=Bf ha;simp at hn;omega) V (NT Mq ha) (by have:=Oz ha;omega);have YK:i<O (l.map bF.flat):=D
  refine gr ?_;rw [hm];simp only [iH] at e1 e2;refine gc hp ?_;refine tb (!x5 (a.typ ty).2 0) (λh5=>?_) (λh5=>?_)
  .simp only [o5] at h5
   simp only [h5,j5,if_false] at e1 e2;refine gr ?_;refine ⟨_,rfl,?_⟩;simp [j4,bF.typ,e2,h5,c7.K9,Z]
  .simp only [C5] at h5
   simp only [h5,if_true] at e1 e2;refine gr ?_;exact ⟨O l2,by simp at hk;omega,i+1,l1++[a],l2,ts++[(a.typ ty).1],_,_,_,_,_,_,rfl,rfl,by simp [Df],rfl,by simp [hl],by simp [hts],by simp [e1],e2⟩
 .cases l2 with
  |cons a l2=>simp at hlen;omega
  |nil =>
  simp only [iH,List.append_nil] at e1 e2;refine gr ?_;rw [h0];have aD4:JU t.op (O ts):=by rw [hts];simpa [hl] using hfit
  refine gc (aK3 t.op ts aD4) ?_;refine tb (x5 (iV t.op ts) 0) (λh5=>?_) (λh5=>?_)
  .refine gr ?_
   refine ⟨_,rfl,?_⟩;simp [j4,bF.typ,e1,e2,h1,h2,h5,Cm,c7.K9,Z,o9]
  .refine gr ?_
   refine ⟨_,rfl,?_⟩;simp [j4,bF.typ,e1,e2,h1,h2,h5,Cm,c7.K9,Z,o9]
def pair (p:Int×Int):c7:= .tuple [.d (Z p.1),.d (Z p.2)]
set_option maxHeartbeats 2000000 in
def Ph (e:List X0)(ty:List Int)(he:O e<=1000)(ht:O ty<=100000):Pf A 114 [gW e,.d (ints ty)] (pair (M8 e ty)):=by
 refine Pf.gr 3 ?_;refine tc (!aW e) (aJ4 e he) (λh1=>?_) (λh1=>?_)
 .refine gr ?_
  refine ⟨_,rfl,?_⟩;rw [gX] at h1;cases h2:gY e with
  |none=>simp [M8,h2,j4,pair,Z,c7.K9]
  |some a=>simp [h2] at h1
 rw [gX] at h1;cases h2:gY e with
 |none=>simp [h2] at h1
 |some a =>
 have h3:e=a.flat/\a.wf/\a.dep<=16:=by
  unfold gY at h2;split at h2
  .split at h2
   next b h4=>
    obtain ⟨e1,e2,e3⟩:=V2 16 e b [] h4;cases h2;exact ⟨by simpa using e1,e2,e3⟩
   .cases h2
  .cases h2
 refine gr ?_;refine Ex.M4 (λk T H=>∃(i:Nat),T=[gW e,.d (ints ty),.any,.any,.d (Z i)]/\H=[]/\i+k=O ty/\dA ty=dA (ty.drop i)) ?_ (k:=O ty) ⟨0,rfl,rfl,U,U⟩;rintro k _ _ ⟨i,rfl,rfl,hk,hi⟩;refine Ex.seq ?_;refine tl i (O ty) (λh5=>?_) (λh5=>?_)
 .rw [D8 V] at hi
  refine gr ?_;refine tb (!x5 (Y ty i) 1&& !x5 (Y ty i) 2) (λh6=>?_) (λh6=>?_)
  .refine gr ?_
   refine ⟨_,rfl,?_⟩;have h7:dA ty=F:=by
    rw [hi];simp only [c9,o5] at h6;simp [dA,h6]
   simp [M8,h2,h7,j4,pair,Z,c7.K9]
  .refine gr ?_
   refine kk ⟨i+1,rfl,rfl,V,?_⟩;rw [hi];simp only [dA,List.all_cons];cases h7:x5 (Y ty i) 1<;>cases h8:x5 (Y ty i) 2<;>simp_all
 .rw [n5 V] at hi
  have h6:=aJ5 ty (O e) a (by rw [h3.1];omega) he h3.2.1 h3.2.2;rw [<- h3.1] at h6;refine gc h6 ?_;refine ⟨_,rfl,?_⟩;have hg:dA ty=W:=by rw [hi];rfl
  simp [M8,h2,hg,j4,pair,c7.K9]
def encS (s:K0):List A5.Data:=[.str s]
set_option maxHeartbeats 4000000 in
def aL6 (c:p9)(hf:c.iC):Pf A 142 [cat c] (.d (y6 encS c.names)):=by
 obtain ⟨f0,f1,f2,f3,f4,f5,f6,f7⟩:=hf;refine Pf.gr 11 ?_;refine Ex.M4 (λk T H=>∃(i:Nat) (acc:List K0),T=[.any,.ptr 0 0,.any,B9 1 encS acc,.d (Z i),.any,.any,.any,.any,.any,.any,.any]/\H=[.cells (c.enc.map .d)]/\i+k=O c.j7/\acc=([]:List K0)++(c.j7.take i).map fR.name) ?_ (k:=O c.j7) ⟨0,([]:List K0),rfl,rfl,U,U⟩;rintro k _ _ ⟨i,acc,rfl,rfl,hk,hacc⟩;have hl:O acc=0+i:=by rw [hacc];simp;omega
 repeat' (first|refine gy ?_|refine ft (λht=>?_) λht=>?_|refine ⟨_,rfl,?_⟩|fail)
 .have h1:=C8 ht
  refine kk ⟨i+1,acc++[(Y c.j7 i).name],rfl,rfl,V,?_⟩;rw [H8 V,hacc];simp
 have h1:=D4 ht;rw [A4 V] at hacc;clear ht h1 hk hl;subst hacc;refine Ex.M4 (λk T H=>∃(i:Nat) (acc:List K0),T=[.any,.ptr 0 0,.any,B9 1 encS acc,.any,.d (Z i),.any,.any,.any,.any,.any,.any]/\H=[.cells (c.enc.map .d)]/\i+k=O c.views/\acc=c.j7.map fR.name++(c.views.take i).map Vw.name) ?_ (k:=O c.views) ⟨0,c.j7.map fR.name,rfl,rfl,U,U⟩;rintro k _ _ ⟨i,acc,rfl,rfl,hk,hacc⟩;have hl:O acc=0+O c.j7+i:=by rw [hacc];simp;omega
 repeat' (first|refine gy ?_|refine ft (λht=>?_) λht=>?_|refine ⟨_,rfl,?_⟩|fail)
 .have h1:=C8 ht
  refine kk ⟨i+1,acc++[(Y c.views i).name],rfl,rfl,V,?_⟩;rw [H8 V,hacc];simp
 have h1:=D4 ht;rw [A4 V] at hacc;clear ht h1 hk hl;subst hacc;refine Ex.M4 (λk T H=>∃(i:Nat) (acc:List K0),T=[.any,.ptr 0 0,.any,B9 1 encS acc,.any,.any,.d (Z i),.any,.any,.any,.any,.any]/\H=[.cells (c.enc.map .d)]/\i+k=O c.idxs/\acc=c.j7.map fR.name++c.views.map Vw.name++(c.idxs.take i).map mg.name) ?_ (k:=O c.idxs) ⟨0,c.j7.map fR.name++c.views.map Vw.name,rfl,rfl,U,U⟩;rintro k _ _ ⟨i,acc,rfl,rfl,hk,hacc⟩;have hl:O acc=0+O c.j7+O c.views+i:=by rw [hacc];simp;omega
 repeat' (first|refine gy ?_|refine ft (λht=>?_) λht=>?_|refine ⟨_,rfl,?_⟩|fail)
 .have h1:=C8 ht
  refine kk ⟨i+1,acc++[(Y c.idxs i).name],rfl,rfl,V,?_⟩;rw [H8 V,hacc];simp
 have h1:=D4 ht;rw [A4 V] at hacc;clear ht h1 hk hl;subst hacc;refine Ex.M4 (λk T H=>∃(i:Nat) (acc:List K0),T=[.any,.ptr 0 0,.any,B9 1 encS acc,.any,.any,.any,.d (Z i),.any,.any,.any,.any]/\H=[.cells (c.enc.map .d)]/\i+k=O c.J7/\acc=c.j7.map fR.name++c.views.map Vw.name++c.idxs.map mg.name++(c.J7.take i).map mb.name) ?_ (k:=O c.J7) ⟨0,c.j7.map fR.name++c.views.map Vw.name++c.idxs.map mg.name,rfl,rfl,U,U⟩;rintro k _ _ ⟨i,acc,rfl,rfl,hk,hacc⟩;have hl:O acc=0+O c.j7+O c.views+O c.idxs+i:=by rw [hacc];simp;omega
 repeat' (first|refine gy ?_|refine ft (λht=>?_) λht=>?_|refine ⟨_,rfl,?_⟩|fail)
 .have h1:=C8 ht
  refine kk ⟨i+1,acc++[(Y c.J7 i).name],rfl,rfl,V,?_⟩;rw [H8 V,hacc];simp
 have h1:=D4 ht;rw [A4 V] at hacc;clear ht h1 hk hl;subst hacc;refine Ex.M4 (λk T H=>∃(i:Nat) (acc:List K0),T=[.any,.ptr 0 0,.any,B9 1 encS acc,.any,.any,.any,.any,.d (Z i),.any,.any,.any]/\H=[.cells (c.enc.map .d)]/\i+k=O c.L0/\acc=c.j7.map fR.name++c.views.map Vw.name++c.idxs.map mg.name++c.J7.map mb.name++(c.L0.take i).map oF.name) ?_ (k:=O c.L0) ⟨0,c.j7.map fR.name++c.views.map Vw.name++c.idxs.map mg.name++c.J7.map mb.name,rfl,rfl,U,U⟩;rintro k _ _ ⟨i,acc,rfl,rfl,hk,hacc⟩;have hl:O acc=0+O c.j7+O c.views+O c.idxs+O c.J7+i:=by rw [hacc];simp;omega
 repeat' (first|refine gy ?_|refine ft (λht=>?_) λht=>?_|refine ⟨_,rfl,?_⟩|fail)
 .have h1:=C8 ht
  refine kk ⟨i+1,acc++[(Y c.L0 i).name],rfl,rfl,V,?_⟩;rw [H8 V,hacc];simp
 have h1:=D4 ht;rw [A4 V] at hacc;clear ht h1 hk hl;subst hacc;refine Ex.M4 (λk T H=>∃(i:Nat) (acc:List K0),T=[.any,.ptr 0 0,.any,B9 1 encS acc,.any,.any,.any,.any,.any,.d (Z i),.any,.any]/\H=[.cells (c.enc.map .d)]/\i+k=O c.M7/\acc=c.j7.map fR.name++c.views.map Vw.name++c.idxs.map mg.name++c.J7.map mb.name++c.L0.map oF.name++(c.M7.take i).map oo.name) ?_ (k:=O c.M7) ⟨0,c.j7.map fR.name++c.views.map Vw.name++c.idxs.map mg.name++c.J7.map mb.name++c.L0.map oF.name,rfl,rfl,U,U⟩;rintro k _ _ ⟨i,acc,rfl,rfl,hk,hacc⟩;have hl:O acc=0+O c.j7+O c.views+O c.idxs+O c.J7+O c.L0+i:=by rw [hacc];simp;omega
 repeat' (first|refine gy ?_|refine ft (λht=>?_) λht=>?_|refine ⟨_,rfl,?_⟩|fail)
 .have h1:=C8 ht
  refine kk ⟨i+1,acc++[(Y c.M7 i).name],rfl,rfl,V,?_⟩;rw [H8 V,hacc];simp
 have h1:=D4 ht;rw [A4 V] at hacc;clear ht h1 hk hl;subst hacc;refine Ex.M4 (λk T H=>∃(i:Nat) (acc:List K0),T=[.any,.ptr 0 0,.any,B9 1 encS acc,.any,.any,.any,.any,.any,.any,.d (Z i),.any]/\H=[.cells (c.enc.map .d)]/\i+k=O c.O0/\acc=c.j7.map fR.name++c.views.map Vw.name++c.idxs.map mg.name++c.J7.map mb.name++c.L0.map oF.name++c.M7.map oo.name++(c.O0.take i).map rA.name) ?_ (k:=O c.O0) ⟨0,c.j7.map fR.name++c.views.map Vw.name++c.idxs.map mg.name++c.J7.map mb.name++c.L0.map oF.name++c.M7.map oo.name,rfl,rfl,U,U⟩;rintro k _ _ ⟨i,acc,rfl,rfl,hk,hacc⟩;have hl:O acc=0+O c.j7+O c.views+O c.idxs+O c.J7+O c.L0+O c.M7+i:=by rw [hacc];simp;omega
 repeat' (first|refine gy ?_|refine ft (λht=>?_) λht=>?_|refine ⟨_,rfl,?_⟩|fail)
 .have h1:=C8 ht
  refine kk ⟨i+1,acc++[(Y c.O0 i).name],rfl,rfl,V,?_⟩;rw [H8 V,hacc];simp
 have h1:=D4 ht;rw [A4 V] at hacc;clear ht h1 hk hl;subst hacc;refine Ex.M4 (λk T H=>∃(i:Nat) (acc:List K0),T=[.any,.ptr 0 0,.any,B9 1 encS acc,.any,.any,.any,.any,.any,.any,.any,.d (Z i)]/\H=[.cells (c.enc.map .d)]/\i+k=O c.Q3/\acc=c.j7.map fR.name++c.views.map Vw.name++c.idxs.map mg.name++c.J7.map mb.name++c.L0.map oF.name++c.M7.map oo.name++c.O0.map rA.name++(c.Q3.take i).map ru.name) ?_ (k:=O c.Q3) ⟨0,c.j7.map fR.name++c.views.map Vw.name++c.idxs.map mg.name++c.J7.map mb.name++c.L0.map oF.name++c.M7.map oo.name++c.O0.map rA.name,rfl,rfl,U,U⟩;rintro k _ _ ⟨i,acc,rfl,rfl,hk,hacc⟩;have hl:O acc=0+O c.j7+O c.views+O c.idxs+O c.J7+O c.L0+O c.M7+O c.O0+i:=by rw [hacc];simp;omega
 repeat' (first|refine gy ?_|refine ft (λht=>?_) λht=>?_|refine ⟨_,rfl,?_⟩|fail)
 .have h1:=C8 ht
  refine kk ⟨i+1,acc++[(Y c.Q3 i).name],rfl,rfl,V,?_⟩;rw [H8 V,hacc];simp
 have h1:=D4 ht;rw [A4 V] at hacc;clear ht h1 hk hl;subst hacc;simp [j4,y6,B9,p9.names]
def p9.sn (c:p9):List K0:=c.j7.map fR.name++c.views.map Vw.name
def p9.ns (c:p9):Nat:=O c.j7+O c.views
def J5 (name:K0):List K0->Nat->Int
 |[],_=> -1
 |x::r,i=>if O4 x name then i else J5 name r (i+1)
def F8 (c:p9)(name:K0)(n:Nat):Int:=J5 name ((p9.sn c).take n) 0
theorem Z6 (c:p9):O (p9.sn c)=p9.ns c:=by simp [p9.sn,p9.ns]
def BG (c:p9){i:Nat}(h:i<p9.ns c):Y c.names i=Y (p9.sn c) i:=by
 have h1:c.names=p9.sn c++(c.idxs.map mg.name++c.J7.map mb.name++c.L0.map oF.name++c.M7.map oo.name++c.O0.map rA.name++c.Q3.map ru.name):=by simp [p9.names,p9.sn]
 have h2:i<O (p9.sn c):=by grind [Z6]
 grind [F9,List.getElem_append_left]
theorem V0 (c:p9):p9.ns c<=O c.names:=by simp [p9.names,p9.ns]
def HA (c:p9)(name:K0)(n:Nat)(hf:c.iC)(hn:n<=100000):Pf A 112 [cat c,.d (.str name),.d (Z n)] (.d (Z (F8 c name n))):=by
 have hl:=V0 c;have hc:p9.ns c<=2000:=by obtain ⟨f0,f1,_⟩:=hf;grind [p9.ns]
 have hs:=Z6 c;have tN :O c.j7+O c.views<=2000:=hc;refine Pf.go 4 ?_;refine gc (aL6 c hf) ?_;refine Ex.EM (λk T H=>∃(i:Nat) (v w:c7),T=[v,.d (.str name),.d (Z n),.ptr 0 0,w,.d (y6 encS c.names),.d (Z i)]/\H=[.cells (c.enc.map .d)]/\i+k=p9.ns c/\i<=n/\F8 c name n=J5 name (((p9.sn c).take n).drop i) i) M ?_ (k:=p9.ns c) ⟨0,_,_,rfl,rfl,U,V,by simp [F8]⟩;rintro k _ _ ⟨i,v,w,rfl,rfl,hk,hin,hi⟩;refine Ex.nT ?_;refine Ex.seq ?_;refine tB (F0 i n&&F0 i (p9.ns c)) ?_ (λh1=>?_) (λh1=>?_)
 .repeat' (first|refine gx ?_|refine fk (h1:=λhw=>?_) (h2:=λhw=>?_)|refine ⟨rfl,rfl,_,rfl,?_⟩|fail)
  all_goals grind [j4,p9.ns,A1,x8,o9,I9]
 .simp [c9] at h1
  have h2:=C8 h1.1;have h3:=C8 h1.2;have h4:((p9.sn c).take n).drop i=Y (p9.sn c) i::((p9.sn c).take n).drop (i+1):=by
   grind [D8,F9]
  rw [h4,<- BG c V] at hi
  repeat' (first|refine gx ?_|refine Ex.test (Rn.text ?_)|refine ⟨_,rfl,λht=>?_,λht=>?_⟩|refine ⟨_,rfl,?_⟩|fail)
  .grind [J5,j4,Z]
  .exact kk ⟨i+1,_,_,rfl,rfl,V,V,by grind [J5]⟩
 .repeat' (first|refine gx ?_|refine ⟨_,rfl,?_⟩|fail)
  grind [p9.sn,n5,A1,J5,j4,Z]
def gv (c:p9)(name:K0)(n:Nat):Int:=F8 c name (min n (O c.j7))
def Vu (c:p9)(name:K0)(n:Nat)(hf:c.iC)(hn:n<=100000):Pf A 207 [cat c,.d (.str name),.d (Z n)] (.d (Z (gv c name n))):=by
 refine Pf.gr 2 ?_;have e:(if (O c.j7:Int)<(n:Int) then (O c.j7:Int) else (n:Int))=((min n (O c.j7):Nat):Int):=by split<;>omega
 refine cl (HA c name (min n (O c.j7)) hf V) ?_ (ha:=by rw [Z,<- e];rfl);refine gr ?_;exact ⟨_,rfl,rfl⟩
def W3 (t:fR):Int->List Int->Bool
 |_,[]=>W
 |p,o::r=>F0 p o&&F0 o (O t.o7)&& !(O4 (Y t.o7 o.toNat).space []&&O4 (Y t.o7 o.toNat).refs [])&&W3 t o r
def U1 (t:fR):c7:= .agg (t.enc.map .d)
def aJ3 (t:fR)(xs:List Int)(hx:O xs<=1000)(hc:O t.o7<=1000):Pf A 245 [U1 t,.d (ints xs)] (.d (.bool (W3 t (-1) xs))):=by
 refine Pf.gr 3 ?_;refine Ex.M4 (λk T H=>∃(i:Nat) (p:Int),T=[.any,.d (ints xs),.ptr 0 0,.any,.d (Z i)]/\H=[.cells (t.enc.map .d)]/\i+k=O xs/\p=(if i=0 then -1 else Y xs (i - 1))/\ -1<=p/\W3 t (-1) xs=W3 t p (xs.drop i)) ?_ (k:=O xs) ⟨0, -1,rfl,rfl,U,U,V,U⟩;rintro k _ _ ⟨i,p,rfl,rfl,hk,hp,hp1,hi⟩;refine Ex.seq ?_;refine tb (F0 i (O xs)) (λh1=>?_) (λh1=>?_)
 .have h2:=C8 h1
  rw [D8 V] at hi;have hq:(((i:Int) - 1).toNat)=i - 1:=V
  refine gr ?_;refine tB (!(s4 (Y xs i) 0 (O t.o7 - 1))||(F0 0 i&&aH (Y xs i) (Y xs (i - 1)))||(O4 (Y t.o7 (Y xs i).toNat).space []&&O4 (Y t.o7 (Y xs i).toNat).refs [])) ?_ (λh3=>?_) (λh3=>?_)
  .repeat' (first|refine cl (tE _ _ _) ?_|refine gx ?_|refine fk (h1:=λhw=>?_) (h2:=λhw=>?_)|refine ⟨rfl,rfl,_,rfl,?_⟩|fail)
   all_goals first|(simp [*,j4,hq];done)|(simp_all [j4,hq];done)
  .refine gr ?_
   refine ⟨_,rfl,?_⟩;have h5:(F0 p (Y xs i)&&F0 (Y xs i) (O t.o7)&& !(O4 (Y t.o7 (Y xs i).toNat).space []&&O4 (Y t.o7 (Y xs i).toNat).refs []))=F:=by
    rcases hS:(O4 (Y t.o7 (Y xs i).toNat).space []&&O4 (Y t.o7 (Y xs i).toNat).refs []) with _|_
    .simp [hS,s4,A1,x8] at h3 ⊢
     by_cases h0:i=0
     .simp [h0] at hp h3 ⊢;omega
     .simp [h0] at hp;omega
    .simp
   rw [hi,W3,h5];simp [j4]
  .refine gr ?_
   have h5:F0 p (Y xs i)=W/\F0 (Y xs i) (O t.o7)=W/\(O4 (Y t.o7 (Y xs i).toNat).space []&&O4 (Y t.o7 (Y xs i).toNat).refs [])=F:=by
    simp only [D5] at h3;refine ⟨?_,?_,h3.2⟩
    .simp [s4,A1,x8] at h3 ⊢
     by_cases h0:i=0
     .simp [h0] at hp h3 ⊢;omega
     .simp [h0] at hp;omega
    .simp [s4,A1,x8] at h3 ⊢
     omega
   refine kk ⟨i+1,Y xs i,rfl,rfl,V,U,?_,?_⟩
   .have:=C8 h5.1;omega
   .rw [hi,W3,h5.1,h5.2.1,h5.2.2]
    simp
 .refine gr ?_
  have h2:=D4 h1;rw [n5 V] at hi;exact ⟨_,rfl,by simp [hi,W3,j4]⟩
def aK (c:p9)(n i:Nat):Int :=
 if !M3 (Y (Y c.j7 n).o7 i).name||(!O4 (Y (Y c.j7 n).o7 i).space []&& !M3 (Y (Y c.j7 n).o7 i).space) then 3
 else if ((Y c.j7 n).o7.take i).any λy=>O4 y.name (Y (Y c.j7 n).o7 i).name then 4
 else if !O4 (Y (Y c.j7 n).o7 i).refs []&&F0 (gv c (Y (Y c.j7 n).o7 i).refs n) 0 then 7
 else if (!x5 (Y (Y c.j7 n).o7 i).type 1&& !x5 (Y (Y c.j7 n).o7 i).type 2)||(aH 0 (gv c (Y (Y c.j7 n).o7 i).refs n)&& !O4 (Y (Y c.j7 n).o7 i).refs []&& !x5 (Y (Y c.j7 (gv c (Y (Y c.j7 n).o7 i).refs n).toNat).o7 0).type (Y (Y c.j7 n).o7 i).type) then 5
 else if (!O4 (Y (Y c.j7 n).o7 i).space []&& !O4 (Y (Y c.j7 n).o7 i).refs [])|| !W3 (Y c.j7 n) (-1) (Y (Y c.j7 n).o7 i).D6|| !s4 (Y (Y c.j7 n).o7 i).fc 0 1||(x5 (O (Y (Y c.j7 n).o7 i).D6) 0&&(!x5 (Y (Y c.j7 n).o7 i).fc 0|| !x5 (Y (Y c.j7 n).o7 i).kA 0)) then 1
 else if !s4 (Y (Y c.j7 n).o7 i).kA 0 1048576||(!x5 (Y c.j7 n).cz 0&&F0 (Y c.j7 n).cz (Y (Y c.j7 n).o7 i).kA)||(x5 i 0&&F0 0 (O (Y (Y c.j7 n).o7 i).D6)&& !x5 (Y c.j7 n).erase 1) then 1
 else if (!O4 (Y (Y c.j7 n).o7 i).refs []&&F0 0 (O (Y (Y c.j7 (gv c (Y (Y c.j7 n).o7 i).refs n).toNat).o7 0).D6))&& !hasB (Y (Y c.j7 n).o7 i).D6 i then 1
 else 0
theorem gQ (name:K0):∀(l:List K0) (i:Nat),J5 name l i= -1\/((i:Int)<=J5 name l i/\J5 name l i<i+O l)
 |[],i=>Or.inl rfl
 |x::r,i=>by
  simp only [J5];split
  .simp;omega
  .rcases gQ name r (i+1) with h|h
   .exact Or.inl h
   .simp;omega
def NP (c:p9)(name:K0)(n:Nat):gv c name n= -1\/(0<=gv c name n/\gv c name n<n/\gv c name n<O c.j7):=by
 unfold gv F8
 rcases gQ name ((p9.sn c).take (min n (O c.j7))) 0 with h|h
 .exact Or.inl h
 .simp at h
  omega
set_option maxHeartbeats 8000000 in
def bs5 (c:p9)(n i:Nat)(hf:c.iC)(hn:n<O c.j7)(hi:i<O (Y c.j7 n).o7)(hl:O (Y c.j7 n).o7<=1000)(ho:O (Y (Y c.j7 n).o7 i).D6<=1000)(hp:∀m,m<n->0<O (Y c.j7 m).o7):Pf A 199 [cat c,.d (Z n),.d (Z i)] (.d (Z (aK c n i))):=by
 have hn2:n<=1000:=by obtain ⟨f0,_⟩:=hf;omega
 have hb:gv c (Y (Y c.j7 n).o7 i).refs n= -1\/(0<=gv c (Y (Y c.j7 n).o7 i).refs n/\gv c (Y (Y c.j7 n).o7 i).refs n<n/\gv c (Y (Y c.j7 n).o7 i).refs n<O c.j7/\0<O (Y c.j7 (gv c (Y (Y c.j7 n).o7 i).refs n).toNat).o7):=by
  rcases NP c (Y (Y c.j7 n).o7 i).refs n with h|h
  .exact Or.inl h
  .exact Or.inr ⟨h.1,h.2.1,h.2.2,hp _ V⟩
 refine Pf.gr 6 ?_;refine tc (!M3 (Y (Y c.j7 n).o7 i).name||(!O4 (Y (Y c.j7 n).o7 i).space []&& !M3 (Y (Y c.j7 n).o7 i).space)) ar5 (λh1=>?_) (λh1=>?_)
 .refine gr ?_
  exact ⟨_,rfl,by simp only [j4,Z,aK,h1,j5,if_true,if_false]⟩
 refine gr ?_;refine Ex.M4 (λk T H=>∃(j:Nat),T=[.any,.d (Z n),.d (Z i),.ptr 0 0,.any,.ptr 1 0,.ptr 2 0,.d (Z j),.any]/\H=[.cells (c.enc.map .d),.cells ((Y c.j7 n).enc.map .d),.cells ((Y (Y c.j7 n).o7 i).enc.map .d)]/\j+k=i/\(((Y c.j7 n).o7.take i).any λy=>O4 y.name (Y (Y c.j7 n).o7 i).name)=((((Y c.j7 n).o7.take i).drop j).any λy=>O4 y.name (Y (Y c.j7 n).o7 i).name)) ?_ (k:=i) ⟨0,rfl,rfl,U,U⟩;rintro k _ _ ⟨j,rfl,rfl,hk,hj⟩;refine Ex.seq ?_;refine tb (F0 j i) (λh8=>?_) (λh8=>?_)
 .have h9:=C8 h8
  rw [lV V V] at hj
  repeat' (first|refine gy ?_|refine ft (λht=>?_) λht=>?_|refine ⟨_,rfl,?_⟩|fail)
  .have h2:(((Y c.j7 n).o7.take i).any λy=>O4 y.name (Y (Y c.j7 n).o7 i).name)=W:=by rw [hj];simp [ht]
   simp only [j4,Z,aK,h1,h2,j5,if_true,if_false]
  .exact kk ⟨j+1,rfl,rfl,V,by rw [hj];simp [ht]⟩
 have h9:=D4 h8;rw [n5 D] at hj;have h2:(((Y c.j7 n).o7.take i).any λy=>O4 y.name (Y (Y c.j7 n).o7 i).name)=F:=by rw [hj];rfl
 clear hj h8 hk;refine gc (Vu c (Y (Y c.j7 n).o7 i).refs n hf V) ?_;refine tb (!O4 (Y (Y c.j7 n).o7 i).refs []&&F0 (gv c (Y (Y c.j7 n).o7 i).refs n) 0) (λh3=>?_) (λh3=>?_)
 .refine gr ?_
  exact ⟨_,rfl,by simp only [j4,Z,aK,h1,h2,h3,j5,if_true,if_false]⟩
 have h3' :(!O4 (Y (Y c.j7 n).o7 i).refs [])=W->0<=gv c (Y (Y c.j7 n).o7 i).refs n:=λh=>by
  simp only [h,Bool.true_and] at h3;exact D4 h3
 have h3q:(!O4 (Y (Y c.j7 n).o7 i).refs [])=W->0<O (Y c.j7 (gv c (Y (Y c.j7 n).o7 i).refs n).toNat).o7:=λh=>by have:=h3' h;omega
 refine tb ((!x5 (Y (Y c.j7 n).o7 i).type 1&& !x5 (Y (Y c.j7 n).o7 i).type 2)||(aH 0 (gv c (Y (Y c.j7 n).o7 i).refs n)&& !O4 (Y (Y c.j7 n).o7 i).refs []&& !x5 (Y (Y c.j7 (gv c (Y (Y c.j7 n).o7 i).refs n).toNat).o7 0).type (Y (Y c.j7 n).o7 i).type)) (λh4=>?_) (λh4=>?_)
 .refine gr ?_
  exact ⟨_,rfl,by simp only [j4,Z,aK,h1,h2,h3,h4,j5,if_true,if_false]⟩
 refine tc ((!O4 (Y (Y c.j7 n).o7 i).space []&& !O4 (Y (Y c.j7 n).o7 i).refs [])|| !W3 (Y c.j7 n) (-1) (Y (Y c.j7 n).o7 i).D6|| !s4 (Y (Y c.j7 n).o7 i).fc 0 1||(x5 (O (Y (Y c.j7 n).o7 i).D6) 0&&(!x5 (Y (Y c.j7 n).o7 i).fc 0|| !x5 (Y (Y c.j7 n).o7 i).kA 0))) (And.intro (aJ3 (Y c.j7 n) (Y (Y c.j7 n).o7 i).D6 ho hl) tE) (λh5=>?_) (λh5=>?_)
 .refine gr ?_
  exact ⟨_,rfl,by simp only [j4,Z,aK,h1,h2,h3,h4,h5,j5,if_true,if_false]⟩
 refine tc (!s4 (Y (Y c.j7 n).o7 i).kA 0 1048576||(!x5 (Y c.j7 n).cz 0&&F0 (Y c.j7 n).cz (Y (Y c.j7 n).o7 i).kA)||(x5 i 0&&F0 0 (O (Y (Y c.j7 n).o7 i).D6)&& !x5 (Y c.j7 n).erase 1)) tE (λh6=>?_) (λh6=>?_)
 .refine gr ?_
  exact ⟨_,rfl,by simp only [j4,Z,aK,h1,h2,h3,h4,h5,h6,j5,if_true,if_false]⟩
 refine tB ((!O4 (Y (Y c.j7 n).o7 i).refs []&&F0 0 (O (Y (Y c.j7 (gv c (Y (Y c.j7 n).o7 i).refs n).toNat).o7 0).D6))&& !hasB (Y (Y c.j7 n).o7 i).D6 i) ?_ (λh7=>?_) (λh7=>?_)
 .repeat' (first|refine cl (bs2 (Y (Y c.j7 n).o7 i).D6 i ho) ?_|refine ixZ (hi:=⟨h3' hw,V⟩) (h2:=?_)|refine ixN (hi:=h3q hw) (h2:=?_)|refine gx ?_|refine fq (λhw=>?_) λhw=>?_|refine ⟨rfl,rfl,_,rfl,?_⟩|refine ⟨rfl,rfl⟩|fail)
  all_goals exact cc
 .refine gr ?_
  exact ⟨_,rfl,by simp only [j4,Z,aK,h1,h2,h3,h4,h5,h6,h7,j5,if_true,if_false]⟩
 refine gr ?_;exact ⟨_,rfl,by simp only [j4,Z,aK,h1,h2,h3,h4,h5,h6,h7,j5,if_true,if_false]⟩
def ek (c:p9)(n:Nat):Nat->Nat->Int
 |0,_=>0
 |k+1,i=>if !x5 (aK c n i) 0 then aK c n i else ek c n k (i+1)
def eH (c:p9)(n:Nat):Int :=
 if !s4 (O (Y c.j7 n).o7) 1 8|| !s4 (Y c.j7 n).erase 0 1|| !s4 (Y c.j7 n).cz 0 1048576 then 1 else ek c n (O (Y c.j7 n).o7) 0
structure p9.small (c:p9):Prop where
 iC:c.iC
 o7:∀n,n<O c.j7->O (Y c.j7 n).o7<=1000
 D6:∀n i,n<O c.j7->i<O (Y c.j7 n).o7->O (Y (Y c.j7 n).o7 i).D6<=1000
def br7 (c:p9)(n:Nat)(hf:p9.small c)(hn:n<O c.j7)(hp:∀m,m<n->0<O (Y c.j7 m).o7):Pf A 144 [cat c,.d (Z n)] (.d (Z (eH c n))):=by
 have hl:=hf.o7 n hn;refine Pf.gr 5 ?_;refine tc (!s4 (O (Y c.j7 n).o7) 1 8|| !s4 (Y c.j7 n).erase 0 1|| !s4 (Y c.j7 n).cz 0 1048576) tE (λh1=>?_) (λh1=>?_)
 .refine gr ?_
  exact ⟨_,rfl,by simp only [j4,Z,eH,h1,if_true]⟩
 refine gr ?_;refine Ex.fh (λk T H=>∃(i:Nat) (v w z:c7),T=[v,.d (Z n),.ptr 0 0,w,.ptr 1 0,.d (Z i),z]/\H=[.cells (c.enc.map .d),.cells ((Y c.j7 n).enc.map .d)]/\i+k=O (Y c.j7 n).o7/\eH c n=ek c n k i) ?_ (k:=O (Y c.j7 n).o7) ⟨0,_,_,_,rfl,rfl,U,by simp only [eH,h1,j5,if_false]⟩;rintro k _ _ ⟨i,v,w,z,rfl,rfl,hk,hi⟩;refine Ex.nT ?_;refine Ex.seq ?_;refine tb (F0 i (O (Y c.j7 n).o7)) (λh2=>?_) (λh2=>?_)
 .have h3:=C8 h2
  obtain ⟨k,rfl⟩:∃k',k=k' +1:=⟨k - 1,V⟩
  repeat' (first|refine cl (bs5 c n i hf.iC hn V hl (hf.D6 n i hn V) hp) ?_|refine gy ?_|refine ft (λht=>?_) λht=>?_|refine ⟨_,rfl,?_⟩|fail)
  .simp [j4,hi,ek,ht]
  .exact ⟨k,V,i+1,_,_,_,rfl,rfl,V,by simp [hi,ek,ht]⟩
 .have h3:=D4 h2
  obtain rfl:k=0:=V
  refine gr ?_;exact ⟨_,rfl,by simp [j4,hi,ek,Z]⟩
def lU (v:Vw):Bool:=(!O4 v.right []||x5 (O v.on) 0)&&aH (O v.on) 8&&aH (O v.items+O v.I6) 8
def bQ (v:Vw):Bool :=
 if x5 v.kind 2 then !O4 v.right []&&x5 (O v.on) 0&&x5 (O v.wh) 0&&x5 (O v.items) 0&&x5 (O v.I6) 0&& !v.distinct
 else if x5 v.kind 0 then !(x5 (O v.items) 0||F0 0 (O v.I6))&&lU v
 else !(x5 (O v.I6) 0||v.distinct)&&lU v
def vw (v:Vw):c7:= .agg (v.enc.map .d)
set_option maxHeartbeats 8000000 in
def bs6 (c:p9)(v:Vw)(h0:O v.items<=1000)(h1:O v.I6<=1000):Pf A 200 [cat c,vw v] (.d (.bool (bQ v))):=by
 refine Pf.go 3 ?_
 repeat' (first|refine gy ?_|refine fq (λhw=>?_) λhw=>?_|refine ⟨_,rfl,?_⟩|fail)
 all_goals first|(simp [*,j4,bQ,lU];done)|(simp_all [j4,bQ,lU];done)|(simp_all [j4,bQ,lU,A1,x8,o9,I9];done)|(simp_all [j4,bQ,lU,A1,x8,o9,I9]<;>omega)
def P5 (l r:List Int):List (Int×Int)->Int
 |[]=>0
 |p::ps=>if !s4 p.1 0 (O l - 1)|| !s4 p.2 0 (O r - 1) then 3 else if !x5 (Y l p.1.toNat) (Y r p.2.toNat) then 5 else P5 l r ps
def bs8 (on:List (Int×Int))(l r:List Int)(h0:O on<=1000)(h1:O l<=100000)(h2:O r<=100000):Pf A 202 [.d (y6 (λp=>[Z p.1,Z p.2]) on),.d (ints l),.d (ints r)] (.d (Z (P5 l r on))):=by
 refine Pf.gr 2 ?_;refine Ex.M4 (λk T H=>∃(i:Nat),T=[.d (y6 (λp=>[Z p.1,Z p.2]) on),.d (ints l),.d (ints r),.any,.d (Z i)]/\H=[]/\i+k=O on/\P5 l r on=P5 l r (on.drop i)) ?_ (k:=O on) ⟨0,rfl,rfl,U,U⟩;rintro k _ _ ⟨i,rfl,rfl,hk,hi⟩;refine Ex.seq ?_;refine tl i (O on) (λh4=>?_) (λh4=>?_)
 .rw [D8 V] at hi
  refine gr ?_;refine tc (!s4 (Y on i).1 0 (O l - 1)|| !s4 (Y on i).2 0 (O r - 1)) tE (λh5=>?_) (λh5=>?_)
  .refine gr ?_
   exact ⟨_,rfl,by simp only [j4,Z,hi,P5,h5,if_true]⟩
  have h6:=h5;simp [s4,x8] at h6
  repeat' (first|refine gy ?_|refine ft (λht=>?_) λht=>?_|refine ⟨_,rfl,?_⟩|fail)
  .simp only [j4,Z,hi,P5,h5,ht,j5,if_true,if_false]
  .exact kk ⟨i+1,rfl,rfl,V,by simp only [hi,P5,h5,ht,j5,if_false]⟩
 .rw [n5 V] at hi
  refine gr ?_;exact ⟨_,rfl,by simp [j4,hi,P5,Z]⟩
end Go.Proofs.YtibjocmpkoepoaaGreat

