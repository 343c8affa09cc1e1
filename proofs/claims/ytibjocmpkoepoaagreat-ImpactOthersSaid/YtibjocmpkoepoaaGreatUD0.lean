import Derived.Test.YtibjocmpkoepoaaGreatUAbs
set_option linter.all false
open Bool renaming and_eq_true→c9,false_eq_true→j6,not_eq_false'→B5,not_eq_true'→o3,or_eq_false_iff→C7,true→W,false→F
open List renaming append_assoc→G8,drop_of_length_le→n5,length_append→k8,take_of_length_le→s4,length→O
open Nat renaming lt_or_ge→y7
open Option renaming some→J,none→K
namespace Go.Proofs.YtibjocmpkoepoaaGreat
open Go.y9 Go.y9.S
attribute [local irreducible] Rx Ry Rn Ex Pf
def bu (n:Int):Bool:=T5 97 n&&T5 n 122
def jb (n:Int):Bool:=T5 48 n&&T5 n 57
def jh (n:Int):Bool:=bu n||jb n||x4 n 95
def J3:G4->Bool
 |[]=>F
 |c::r=>D5 (O r) 16&&bu c.toNat&&(c::r).all λc=>jh c.toNat
def Xa (n:Int):Pf A 197 [.d (.int .u8 n)] (.d (.bool (bu n))):=by
 refine Pf.go 1 ?_
 repeat' (first|refine gy ?_|refine fq (λhw=>?_) λhw=>?_|refine ⟨_,rfl,?_⟩|fail)
 all_goals simp_all [j5,bu]
def Wy (n:Int):Pf A 244 [.d (.int .u8 n)] (.d (.bool (jb n))):=by
 refine Pf.go 1 ?_
 repeat' (first|refine gy ?_|refine fq (λhw=>?_) λhw=>?_|refine ⟨_,rfl,?_⟩|fail)
 all_goals simp_all [j5,jb]
def aq9 (n:Int):Pf A 198 [.d (.int .u8 n)] (.d (.bool (jh n))):=by
 refine Pf.go 1 ?_
 repeat' (first|refine cl (Xa _) ?_|refine cl (Wy _) ?_|refine gy ?_|refine fq (λhw=>?_) λhw=>?_|refine ⟨_,rfl,?_⟩|fail)
 all_goals simp_all [j5,jh]
def Te (s:G4):Pf A 143 [.d (.str s)] (.d (.bool (J3 s))):=by
 refine Pf.gr 2 ?_;refine Ex.cM (match s with|[]=>W|c::r=> !(D5 (O r) 16&&bu c.toNat)) (Rn.text ?_) (λht=>?_) (λht=>?_)
 .repeat' (first|refine cl (Xa _) ?_|refine gx ?_|refine fq (λhw=>?_) λhw=>?_|refine ⟨rfl,rfl,_,rfl,?_⟩|refine ⟨rfl,rfl⟩|fail)
  all_goals cases s
  all_goals first|(simp [*,j5,O2];done)|(simp_all [j5,O2];done)|(simp_all [j5,O2,y4,x6,o6,F3];done)|(simp_all [j5,O2,y4,x6,o6,F3]<;>omega)
 .refine gr ?_
  refine ⟨_,rfl,?_⟩;cases s with
  |nil=>rfl
  |cons c r =>
   simp only [o3] at ht;simp only [J3,ht,j5,Bool.false_and]
 .cases s with
  |nil=>cases ht
  |cons c r =>
  have hl:=ht;simp [y4] at hl;have hb:O (c::r)<=16:=D
  refine gr ?_;refine Ex.J4 (λk T H=>∃(i:Nat),T=[.d (.str (c::r)),.any,.d (.int .i64 i)]/\H=[]/\i+k=O (c::r)/\J3 (c::r)=((c::r).drop i).all λc=>jh c.toNat) ?_ (k:=O (c::r)) ⟨0,rfl,rfl,U,by simp [J3,hl,y4]⟩;rintro k _ _ ⟨i,rfl,rfl,hk,hi⟩
  repeat' (first|refine cl (aq9 _) ?_|refine gy ?_|refine ft (λht=>?_) λht=>?_|refine ⟨_,rfl,?_⟩|fail)
  .simp only [o3] at ht
   simp only [j5];have h1:=A7 ‹_›;rw [hi,C4 V];simp [ht]
  .have h1:=A7 ‹_›
   rw [C4 V] at hi;simp only [B5] at ht;refine kk ⟨i+1,rfl,rfl,V,?_⟩;rw [hi];simp [ht]
  .have h1:=B8 ‹_›
   rw [n5 V] at hi;simp [hi,j5]
def nK (n a b:Int):Pf A 111 [.d (Z n),.d (Z a),.d (Z b)] (.d (.bool (p9 n a b))):=by
 refine Pf.go 1 ?_
 repeat' (first|refine gy ?_|refine fq (λhw=>?_) λhw=>?_|refine ⟨_,rfl,?_⟩|fail)
 all_goals first|(simp [*,j5,p9];done)|(simp_all [j5,p9];done)|(simp_all [j5,p9,y4,x6,o6,F3];done)|(simp_all [j5,p9,y4,x6,o6,F3]<;>omega)
def kM (n a b:Int):Pf A 210 [.d (Z n),.d (Z a),.d (Z b)] (.d (.bool (p9 n a b))):=by
 refine Pf.go 1 ?_
 repeat' (first|refine gy ?_|refine fq (λhw=>?_) λhw=>?_|refine ⟨_,rfl,?_⟩|fail)
 all_goals first|(simp [*,j5,p9];done)|(simp_all [j5,p9];done)|(simp_all [j5,p9,y4,x6,o6,F3];done)|(simp_all [j5,p9,y4,x6,o6,F3]<;>omega)
def WC (n:Int):Pf A 250 [.d (Z n)] (.d (.bool (x4 n 1||x4 n 2))):=by
 refine Pf.go 1 ?_
 repeat' (first|refine gy ?_|refine fq (λhw=>?_) λhw=>?_|refine ⟨_,rfl,?_⟩|fail)
 all_goals exact cc
def ints (l:List Int):y9.Data:=s7 (λn=>[Z n]) l
def hasB (l:List Int)(n:Int):Bool:=l.any λx=>x4 x n
def aq7 (xs:List Int)(n:Int)(hx:O xs<=1000):Pf A 246 [.d (ints xs),.d (Z n)] (.d (.bool (hasB xs n))):=by
 refine Pf.gr 2 ?_;refine Ex.J4 (λk T H=>∃(i:Nat),T=[.d (ints xs),.d (Z n),.any,.d (Z i)]/\H=[]/\i+k=O xs/\hasB xs n=(xs.drop i).any λx=>x4 x n) ?_ (k:=O xs) ⟨0,rfl,rfl,U,by simp [hasB]⟩;rintro k _ _ ⟨i,rfl,rfl,hk,hi⟩
 repeat' (first|refine gy ?_|refine ft (λht=>?_) λht=>?_|refine ⟨_,rfl,?_⟩|fail)
 .have h1:=A7 ‹D5 i _=W›
  rw [C4 V] at hi;simp [hi,ht,j5]
 .have h1:=A7 ‹D5 i _=W›
  rw [C4 V] at hi;exact kk ⟨i+1,rfl,rfl,V,by simp [hi,ht]⟩
 .have h1:=B8 ht
  rw [n5 V] at hi;simp [hi,j5]
def cK {α:Type}(eq:α->α->Bool):List α->List α->Bool
 |[],[]=>W
 |a::l,c::m=>eq a c&&cK eq l m
 |_,_=>F
theorem lU {α:Type}{eq:α->α->Bool}:∀{l m:List α},O l≠O m->cK eq l m=F
 |[],[],h=>absurd rfl h
 |[],_::_,_=>rfl
 |_::_,[],_=>rfl
 |a::l,c::m,h=>by simp only [cK,lU (l:=l) (m:=m) (by simpa using h),Bool.and_false]
def ar2 (xs ys:List Int)(hx:O xs<=100000):Pf A 201 [.d (ints xs),.d (ints ys)] (.d (.bool (cK x4 xs ys))):=by
 refine Pf.go 2 ?_
 repeat' (first|refine gy ?_|refine ft (λht=>?_) λht=>?_|refine ⟨_,rfl,?_⟩|fail)
 .have h1:O xs≠O ys:=by simp [o6] at ht;omega
  simp [lU h1,j5]
 have hl:O xs=O ys:=by simp [o6] at ht;omega
 refine Ex.J4 (λk T H=>∃(i:Nat),T=[.d (ints xs),.d (ints ys),.any,.d (Z i)]/\H=[]/\i+k=O xs/\cK x4 xs ys=cK x4 (xs.drop i) (ys.drop i)) ?_ (k:=O xs) ⟨0,rfl,rfl,U,U⟩;rintro k _ _ ⟨i,rfl,rfl,hk,hi⟩
 repeat' (first|refine gy ?_|refine ft (λht=>?_) λht=>?_|refine ⟨_,rfl,?_⟩|fail)
 .have h1:=A7 ‹D5 i _=W›
  rw [C4 V,C4 (l:=ys) V] at hi;simp only [o3] at ht;simp [hi,cK,ht,j5]
 .have h1:=A7 ‹D5 i _=W›
  rw [C4 V,C4 (l:=ys) V] at hi;simp only [B5] at ht;exact kk ⟨i+1,rfl,rfl,V,by simp [hi,cK,ht]⟩
 .have h1:=B8 ht
  rw [n5 V,n5 V] at hi;simp [hi,cK,j5]
def Wv (xs ys:List Int)(hx:O xs<=100000):Pf A 218 [.d (ints xs),.d (ints ys)] (.d (.bool (cK x4 xs ys))):=by
 refine Pf.go 4 ?_
 repeat' (first|refine gy ?_|refine ft (λht=>?_) λht=>?_|refine ⟨_,rfl,?_⟩|fail)
 .have h1:O xs≠O ys:=by simp [o6] at ht;omega
  simp [lU h1,j5]
 have hl:O xs=O ys:=by simp [o6] at ht;omega
 refine Ex.J4 (λk T H=>∃(i:Nat),T=[.d (ints xs),.d (ints ys),.any,.any,.d (Z (O xs)),.d (Z i)]/\H=[]/\i+k=O xs/\cK x4 xs ys=cK x4 (xs.drop i) (ys.drop i)) ?_ (k:=O xs) ⟨0,rfl,rfl,U,U⟩;rintro k _ _ ⟨i,rfl,rfl,hk,hi⟩
 repeat' (first|refine gy ?_|refine ft (λht=>?_) λht=>?_|refine ⟨_,rfl,?_⟩|fail)
 .have h1:=A7 ‹D5 i _=W›
  rw [C4 V,C4 (l:=ys) V] at hi;simp only [o3] at ht;simp [hi,cK,ht,j5]
 .have h1:=A7 ‹D5 i _=W›
  rw [C4 V,C4 (l:=ys) V] at hi;simp only [B5] at ht;exact kk ⟨i+1,rfl,rfl,V,by simp [hi,cK,ht]⟩
 .have h1:=B8 ht
  rw [n5 V,n5 V] at hi;simp [hi,cK,j5]
def val (k n:Int)(s:G4):c7:= .agg [.d (Z k),.d (Z n),.d (.str s)]
def trm (t:R2):c7:= .agg (t.enc.map .d)
set_option maxHeartbeats 2000000 in
def WT (k n:Int)(s:G4):Pf A 228 [val k n s] (.d (.bool (eO k n s))):=by
 refine Pf.go 3 ?_
 repeat' (first|refine gy ?_|refine fq (λhw=>?_) λhw=>?_|refine ⟨_,rfl,?_⟩|fail)
 all_goals first|(simp [*,j5,eO];done)|(simp_all [j5,eO];done)|(simp_all [j5,eO,y4,x6,o6,F3];done)|(simp_all [j5,eO,y4,x6,o6,F3]<;>omega)
set_option maxHeartbeats 2000000 in
def WU (k n:Int)(s:G4):Pf A 303 [val k n s] (.d (.bool (eO k n s))):=by
 refine Pf.go 3 ?_
 repeat' (first|refine gy ?_|refine fq (λhw=>?_) λhw=>?_|refine ⟨_,rfl,?_⟩|fail)
 all_goals first|(simp [*,j5,eO];done)|(simp_all [j5,eO];done)|(simp_all [j5,eO,y4,x6,o6,F3];done)|(simp_all [j5,eO,y4,x6,o6,F3]<;>omega)
set_option maxHeartbeats 2000000 in
def QN (t:R2):Pf A 272 [trm t] (.d (.bool (bt t))):=by
 refine Pf.go 3 ?_
 repeat' (first|refine cl (WT _ _ _) ?_|refine gy ?_|refine fq (λhw=>?_) λhw=>?_|refine ⟨_,rfl,?_⟩|fail)
 all_goals first|(simp [*,j5,bt,zeroV];done)|(simp_all [j5,bt,zeroV];done)|(simp_all [j5,bt,zeroV,y4,x6,o6,F3];done)|(simp_all [j5,bt,zeroV,y4,x6,o6,F3]<;>omega)
set_option maxHeartbeats 2000000 in
def Hi (op:Int):Pf A 141 [.d (Z op)] (.d (Z (iT op))):=by
 refine Pf.go 4 ?_
 repeat' (first|refine gy ?_|refine fq (λhw=>?_) λhw=>?_|refine ⟨_,rfl,?_⟩|fail)
 all_goals first|(simp [*,j5,iT,Z];done)|(simp_all [j5,iT,Z];done)|(simp_all [j5,iT,Z,y4,x6,o6,F3];done)|(simp_all [j5,iT,Z,y4,x6,o6,F3]<;>omega)
set_option maxHeartbeats 8000000 in
def Ma (op:Int):Pf A 290 [.d (Z op)] (.d (Z (iT op))):=by
 refine Pf.go 5 ?_
 repeat' (first|refine gy ?_|refine fq (λhw=>?_) λhw=>?_|refine ⟨_,rfl,?_⟩|fail)
 all_goals first|(simp [*,j5,iT,Z];done)|(simp_all [j5,iT,Z];done)|(simp_all [j5,iT,Z,y4,x6,o6,F3];done)|(simp_all [j5,iT,Z,y4,x6,o6,F3]<;>omega)
def dM (e:List R2):c7:= .d (s7 R2.enc e)
def nh (e:List R2)(d p:Nat):Int:=match L0 d (e.drop p) with
 |none=> -1
 |some (_,r)=>((O e - O r:Nat):Int)
def Ai (e:List R2)(d k p:Nat):Int:=match cD (L0 d) k (e.drop p) with
 |none=> -1
 |some (_,r)=>((O e - O r:Nat):Int)
def Ia {e:List R2}{d p:Nat}(hp:p<O e)(h:tZ (Y e p)=W):nh e (d+1) p=Ai e d (iT (Y e p).op).toNat (p+1):=by
 simp only [nh,Ai];rw [C4 hp,L0,h,if_pos rfl];cases cD (L0 d) (iT (Y e p).op).toNat (e.drop (p+1)) with
 |none=>rfl
 |some x=>rfl
def yy {e:List R2}{d p:Nat}(h:O e<=p\/d=0\/tZ (Y e p)=F):nh e d p= -1:=by
 simp only [nh]
 rcases h with h|h|h
 .rw [n5 h]
  cases d<;>rfl
 .subst h;rfl
 .rcases y7 p (O e) with hp|hp
  .rw [C4 hp]
   cases d with
   |zero=>rfl
   |succ d=>rw [L0,h,if_neg U]
  .rw [n5 hp]
   cases d<;>rfl
def nj (e:List R2)(d p:Nat):(nh e d p= -1/\L0 d (e.drop p)=K)\/∃q:Nat,nh e d p=q/\q<=O e/\p<=q/\∃a,L0 d (e.drop p)=J (a,e.drop q):=by
 simp only [nh];cases h:L0 d (e.drop p) with
 |none=>exact Or.inl ⟨rfl,rfl⟩
 |some x =>
  obtain ⟨a,r⟩:=x;right;obtain ⟨h1,_,_⟩:=Q3 d _ a r h;have h2:O r<=O e - p:=by
   have:=congrArg List.length h1;simp at this;omega
  have h4:p<=O e:=by
   rcases y7 (O e) p with hp|hp
   .rw [n5 V] at h1
    have:=congrArg List.length h1;have:=fL a;simp at *
    omega
   .exact hp
  refine ⟨O e - O r,rfl,V,V,a,?_⟩;have h3:e.drop (O e - O r)=r:=by
   have h5:e=(e.take p++a.flat)++r:=by rw [G8,<- h1,List.take_append_drop]
   conv=>lhs;rw [h5]
   rw [List.drop_append_of_le_length D,n5 D];rfl
  rw [h3]
def HZ {e:List R2}{d k p:Nat}:Ai e d (k+1) p=if D5 (nh e d p) 0 then -1 else Ai e d k (nh e d p).toNat:=by
 rcases nj e d p with ⟨h1,h2⟩|⟨q,h1,_,_,a,h2⟩
 .rw [h1,if_pos (by simp [y4])]
  simp only [Ai,cD,h2]
 .rw [h1,if_neg (by simp [y4])]
  simp only [Ai,cD,h2,Int.toNat_natCast];cases cD (L0 d) k (e.drop q) with
  |none=>rfl
  |some x=>rfl
set_option maxHeartbeats 2000000 in
def QM (e:List R2)(he:O e<=1000):∀d p:Nat,d<=100->p<=2000->Pf A 229 [dM e,.d (Z p),.d (Z d)] (.d (Z (nh e d p))):=by
 intro d
 induction d with
 |zero =>
  intro p _ hp;refine Pf.run [dM e,.d (Z p),.d (Z (0:Nat)),.any,.any,.any] rfl rfl rfl rfl ?_;refine gr ?_;refine tc (W) (And.intro Hi QN) (λh1=>?_) (λh1=>?_)
  .refine gr ?_
   exact ⟨_,rfl,by rw [yy (Or.inr (Or.inl rfl))];rfl⟩
  .cases h1
 |succ d ih =>
  intro p hd hp;refine Pf.run [dM e,.d (Z p),.d (Z (d+1:Nat)),.any,.any,.any] rfl rfl rfl rfl ?_;refine gr ?_;refine tB (T5 (O e) p|| !tZ (Y e p)) ?_ (λh1=>?_) (λh1=>?_)
  .repeat' (first|refine cl (Hi _) ?_|refine cl (QN _) ?_|refine gx ?_|refine fq (λhw=>?_) λhw=>?_|refine ⟨rfl,rfl,_,rfl,?_⟩|refine ⟨rfl,rfl⟩|fail)
   all_goals first|(simp [*,j5,tZ];done)|(simp_all [j5,tZ];done)|(simp_all [j5,tZ,y4,x6,o6,F3];done)|(simp_all [j5,tZ,y4,x6,o6,F3]<;>omega)
  .refine gr ?_
   refine ⟨_,rfl,?_⟩;rw [yy]
   .rfl
   .simp only [Bool.or_eq_true,o3] at h1
    rcases h1 with h|h
    .have:=ej h;left;omega
    .exact Or.inr (Or.inr h)
  simp only [C7,B5] at h1;have h2:=kI h1.1;have h3:=lC (Y e p).op;have h4:0<=iT (Y e p).op:=by
   have:=h1.2;simp only [tZ,c9,o3] at this;exact B8 this.1
  refine gc Hi ?_;refine Ex.bW (λk T H=>∃(i q:Nat) (v:c7),T=[dM e,.d (Z q),.d (Z (d+1:Nat)),v,.d (Z (iT (Y e p).op)),.d (Z i)]/\H=[]/\(i:Int)+k=iT (Y e p).op/\q<=O e/\nh e (d+1) p=Ai e d k q) ?_ (k:=(iT (Y e p).op).toNat) ⟨0,p+1,_,rfl,rfl,V,V,Ia V h1.2⟩;rintro k _ _ ⟨i,q,v,rfl,rfl,hk,hq,hi⟩;refine Ex.nT ?_;refine Ex.seq ?_;refine tl i (iT (Y e p).op) (λh6=>?_) (λh6=>?_)
  .obtain ⟨k,rfl⟩:∃k',k=k' +1:=⟨k - 1,V⟩
   refine gr ?_;refine cl (ih q V V) ?_ (ha:=by rw [show (d:Int)=((d+1:Nat):Int) - 1 by omega];rfl);rw [HZ] at hi
   rcases nj e d q with ⟨e1,_⟩|⟨q',e1,e2,_,_,_⟩
   .rw [e1] at hi ⊢
    have e3:D5 (-1) 0=W:=by simp [y4]
    rw [e3,if_pos rfl] at hi;refine gr ?_;refine tb (W) (λh7=>?_) (λh7=>?_)
    .refine gr ?_
     exact ⟨_,rfl,by rw [hi];rfl⟩
    .cases h7
   .rw [e1] at hi ⊢
    have e3:D5 (q' :Int) 0=F:=by simp [y4]
    rw [e3,if_neg U] at hi;refine gr ?_;refine tb (F) (λh7=>?_) (λh7=>?_)
    .cases h7
    refine gr ?_;exact ⟨k,V,i+1,q',_,rfl,rfl,V,V,hi⟩
  .obtain rfl:k=0:=V
   refine gr ?_;refine ⟨_,rfl,?_⟩;have h8:Ai e d 0 q=q:=by simp only [Ai,cD,List.length_drop];omega
   rw [hi,h8];rfl
def V6 (e:List R2):Bool:=T5 1 (O e)&&T5 (O e) 64&&x4 (nh e 16 0) (O e)
def WA (e:List R2)(he:O e<=1000):Pf A 170 [dM e] (.d (.bool (V6 e))):=by
 refine Pf.go 1 ?_
 repeat' (first|refine cl (QM e he 16 0 V V) ?_|refine gy ?_|refine fq (λhw=>?_) λhw=>?_|refine ⟨_,rfl,?_⟩|fail)
 all_goals first|(simp [*,j5,V6];done)|(simp_all [j5,V6];done)|(simp_all [j5,V6,y4,x6,o6,F3];done)|(simp_all [j5,V6,y4,x6,o6,F3]<;>omega)
theorem dN (e:List R2):V6 e=(dP e).isSome:=by
 unfold V6 dP;cases h:(T5 1 (O e)&&T5 (O e) 64) with
 |false=>rfl
 |true =>
  simp only [if_true,Bool.true_and];simp only [c9] at h;have hl:=ej h.1;simp only [nh,List.drop_zero];cases h1:L0 16 e with
  |none =>
   simp only [Option.isSome_none,o6];simp
  |some x =>
   obtain ⟨a,r⟩:=x;obtain ⟨h2,_,_⟩:=Q3 16 e a r h1;have h3:O a.flat+O r=O e:=by rw [h2];simp
   have h4:=fL a;cases r with
   |nil=>simp [o6]
   |cons t r=>simp [o6] at *;omega
def Tx (l:List X8):c7:= .d (s7 (λx=>[s7 R2.enc x]) (l.map X8.flat))
def EN {e:List R2}{p:Nat}{a:X8}{l:List X8}(h:e.drop p=K4 (a::l)):e.drop (p+O a.flat)=K4 l/\(e.take (p+O a.flat)).drop p=a.flat:=by
 constructor
 .rw [<- List.drop_drop,h,K4,List.drop_left]
 .rw [List.drop_take,h,Nat.add_sub_cancel_left,K4,List.take_left]
set_option maxHeartbeats 2000000 in
def WJ (t:R2)(l:List X8)(he:O (t::K4 l)<=1000)(hw:Nr l)(hd:ja l<=16):Pf A 230 [dM (t::K4 l)] (Tx l):=by
 refine Pf.gr 4 ?_;refine Ex.bW (λk T H=>∃(p:Nat) (l1 l2:List X8) (v w:c7),T=[dM (t::K4 l),v,A8 1 (λx=>[s7 R2.enc x]) (l1.map X8.flat),.d (Z p),w]/\H=[]/\k=O l2/\l=l1++l2/\p<=O (t::K4 l)/\(t::K4 l).drop p=K4 l2/\Nr l2/\ja l2<=16) ?_ (k:=O l) ⟨1,[],l,_,_,rfl,rfl,rfl,rfl,U,rfl,hw,hd⟩;rintro k _ _ ⟨p,l1,l2,v,w,rfl,rfl,hk,hl,hp,hp2,Iw,hd2⟩;have hlen:=qC l;have JC:O l1<=1000:=by
  have:=congrArg List.length hl;simp at this he;omega
 have oJ:O (K4 l2)+p=O (t::K4 l):=by rw [<- hp2];simp at hp ⊢;omega
 refine Ex.nT ?_;refine Ex.seq ?_;refine tb (D5 p (O (t::K4 l))) (λh1=>?_) (λh1=>?_)
 .have h2:=A7 h1
  cases l2 with
  |nil=>simp [K4] at oJ h2;omega
  |cons a l2 =>
  have h3:=EN hp2;have h4:nh (t::K4 l) 16 p=((p+O a.flat:Nat):Int):=by
   simp only [ja] at hd2;simp only [nh,hp2,K4];rw [T9 a 16 (K4 l2) Iw.1 V];simp only [K4,k8] at oJ;simp only;omega
  have h5:=QM (t::K4 l) he 16 p V V;rw [h4] at h5;simp only [K4,k8] at oJ;refine gc h5 ?_;refine ⟨O l2,by simp at hk;omega,p+O a.flat,l1++[a],l2,.any,.d (Z (p+O a.flat:Nat)),by rw [h3.2];simp [A8],rfl,rfl,by simp [hl],V,h3.1,Iw.2,by simp only [ja] at hd2;omega⟩
 .have h2:=B8 h1
  cases l2 with
  |cons a l2 =>
   have:=fL a;simp only [K4,k8] at oJ;omega
  |nil =>
  refine gr ?_;refine ⟨_,rfl,?_⟩;simp at hl;subst hl;rfl
def Dg (op:Int)(k:Nat):Prop:=(op=3\/op=9\/op=13\/op=16)/\k=1\/op=18/\k=3\/4<=op/\op<=17/\op≠9/\op≠13/\op≠16/\k=2
def LM {t:R2}{k:Nat}(h:tZ t=W)(hk:(iT t.op).toNat=k)(h1:x4 t.op 1=F)(h2:x4 t.op 2=F):Dg t.op k:=by
 simp only [tZ,c9,o3] at h;have h3:=B8 h.1;simp only [iT,h1,h2,Bool.or_self,j6,if_false,Bool.or_eq_true,c9] at h3 hk;unfold Dg;split at h3
 next h4=>
  rw [if_pos h4] at hk;simp [o6] at h4 hk;left;omega
 next h4=>
  rw [if_neg h4] at hk;simp [o6] at h4 h1 h2;split at h3
  next h5=>
   rw [if_pos h5] at hk;simp [o6] at h5 hk;right;left;omega
  next h5=>
   rw [if_neg h5] at hk;simp [o6] at h5;split at h3
   next h6=>
    rw [if_pos h6] at hk;simp [x6] at h6 hk;right;right;omega
   .omega
set_option maxHeartbeats 16000000 in
def WK (op:Int)(t:List Int)(h:Dg op (O t)):Pf A 231 [.d (Z op),.d (ints t)] (.d (Z (eM op t))):=by
 unfold Dg at h;refine Pf.go 7 ?_
 repeat' (first|refine gy ?_|refine fq (λhw=>?_) λhw=>?_|refine ⟨_,rfl,?_⟩|fail)
 all_goals first|(simp [*,j5,eM,Z];done)|(simp_all [j5,eM,Z];done)|(simp_all [j5,eM,Z,y4,x6,o6,F3];done)|(simp_all [j5,eM,Z,y4,x6,o6,F3]<;>omega)
def OI {α:Type} [Inhabited α] (l1:List α)(a:α)(l2:List α):Y (l1++a::l2) (O l1)=a:=by
 rw [D6 U];simp
theorem uZ {a:X8}:∀{l:List X8},a∈l->O a.flat<=O (K4 l)
 |b::l,h=>by
  simp only [K4,k8]
  rcases List.mem_cons.1 h with rfl|h
  .omega
  .have:=uZ h;omega
theorem FQ {a:X8}:∀{l:List X8},Nr l->a∈l->a.wf
 |b::l,hw,h=>by
  rcases List.mem_cons.1 h with rfl|h
  .exact hw.1
  .exact FQ hw.2 h
theorem Gq {a:X8}:∀{l:List X8},a∈l->a.dep<=ja l
 |b::l,h=>by
  simp only [ja]
  rcases List.mem_cons.1 h with rfl|h
  .omega
  .have:=Gq h;omega
set_option maxHeartbeats 4000000 in
def WB (ty:List Int):∀(n:Nat) (a:X8),O a.flat<=n->n<=1000->a.wf->a.dep<=16->Pf A 171 [dM a.flat,.d (ints ty)] (.tuple [.d (Z (a.typ ty).1),.d (Z (a.typ ty).2)]):=by
 intro n
 induction n with
 |zero=>intro a h;have:=fL a;omega
 |succ n ih =>
 rintro ⟨t,l⟩ hn hn2 hw hd;simp only [X8.flat] at hn ⊢;simp only [X8.dep] at hd;have hle:O (t::K4 l)<=1000:=V
 have hpos:0<O (t::K4 l):=U
 have h0:Y (t::K4 l) 0=t:=O2 _ _;obtain ⟨hok,Ua,Ei⟩:=hw;have Yb:=qC l;have hl3:O l<=3:=by have:=lC t.op;omega
 refine Pf.run [dM (t::K4 l),.d (ints ty),.any,.any,.any,.any,.any,.any,.any,.any,.any] rfl rfl rfl rfl ?_;refine gr ?_;rw [h0];have NZ:x4 t.op 2=W->x4 t.op 1=F->0<=t.col:=λh h' =>by
  simp only [tZ,bt,h,h',if_true,j6,if_false,c9] at hok;exact ej hok.2.2
 have hl0:(x4 t.op 1||x4 t.op 2)=W->l=[]:=λh=>by
  have:iT t.op=0:=by unfold iT;rw [h,if_pos rfl]
  rw [this] at Ua;cases l with
  |nil=>rfl
  |cons a l=>simp at Ua
 refine tb (x4 t.op 1) (λh1=>?_) (λh1=>?_)
 .refine gr ?_
  refine ⟨_,rfl,?_⟩;rw [hl0 (by simp [h1])];simp [j5,X8.typ,ew,wO,h1,o6,Z,c7.I7,O2]
 refine gr ?_;refine tb (x4 t.op 2) (λh2=>?_) (λh2=>?_)
 .have hc:=NZ h2 h1
  have Yb:=hl0 (by simp [h2]);refine gr ?_;refine tB (T5 (O ty) t.col) ?_ (λh3=>?_) (λh3=>?_)
  .repeat' (first|refine gx ?_|refine fq (λhw=>?_) λhw=>?_|refine ⟨rfl,rfl,_,rfl,?_⟩|refine ⟨rfl,rfl⟩|fail)
   all_goals first|(simp [*,j5,O2];done)|(simp_all [j5,O2];done)|(simp_all [j5,O2,y4,x6,o6,F3];done)|(simp_all [j5,O2,y4,x6,o6,F3]<;>omega)
  .refine gr ?_
   refine ⟨_,rfl,?_⟩;rw [Yb];simp [j5,X8.typ,ew,wO,h1,h2,h3,o6,Z,c7.I7]
  .have h4:=kI h3
   refine gr ?_;rw [h0];refine gr ?_;refine ⟨_,rfl,?_⟩;rw [Yb];simp [j5,X8.typ,ew,wO,h1,h2,h3,o6,Z,c7.I7]
 have hfit:=LM hok Ua h1 h2;refine gc (WJ t l hle Ei V) ?_;refine Ex.bW (λk T H=>∃(i:Nat) (l1 l2:List X8) (ts:List Int) (v2 v3 v7 v8 v9 v10:c7),T=[dM (t::K4 l),.d (ints ty),v2,v3,A8 1 (λn=>[Z n]) ts,Tx l,.d (Z i),v7,v8,v9,v10]/\H=[]/\i=O l1/\k=O l2/\l=l1++l2/\O ts=O l1/\(ew ty l).1=ts++(ew ty l2).1/\(ew ty l).2=(ew ty l2).2) ?_ (k:=O l) ⟨0,[],l,[],_,_,_,_,_,_,rfl,rfl,rfl,rfl,rfl,rfl,rfl,rfl⟩;rintro k _ _ ⟨i,l1,l2,ts,v2,v3,v7,v8,v9,v10,rfl,rfl,sr,hk,hl,hts,e1,e2⟩;have hlen:O l=O l1+O l2:=by rw [hl];simp
 refine Ex.nT ?_;refine Ex.seq ?_;unfold Tx;refine tl i (O l) (λh4=>?_) (λh4=>?_)
 .cases l2 with
  |nil=>simp at hlen;omega
  |cons a l2 =>
  have hm:Y (l.map X8.flat) i=a.flat:=by
   have:=OI (l1.map X8.flat) a.flat (l2.map X8.flat);rw [hl,sr];simpa using this
  have ha:a∈l:=by rw [hl];simp
  have hp:=ih a (by have:=uZ ha;simp at hn;omega) V (FQ Ei ha) (by have:=Gq ha;omega);have Nj:i<O (l.map X8.flat):=D
  refine gr ?_;rw [hm];simp only [ew] at e1 e2;refine gc hp ?_;refine tb (!x4 (a.typ ty).2 0) (λh5=>?_) (λh5=>?_)
  .simp only [o3] at h5
   simp only [h5,j6,if_false] at e1 e2;refine gr ?_;refine ⟨_,rfl,?_⟩;simp [j5,X8.typ,e2,h5,c7.I7,Z]
  .simp only [B5] at h5
   simp only [h5,if_true] at e1 e2;refine gr ?_;exact ⟨O l2,by simp at hk;omega,i+1,l1++[a],l2,ts++[(a.typ ty).1],_,_,_,_,_,_,rfl,rfl,by simp [sr],rfl,by simp [hl],by simp [hts],by simp [e1],e2⟩
 .cases l2 with
  |cons a l2=>simp at hlen;omega
  |nil =>
  simp only [ew,List.append_nil] at e1 e2;refine gr ?_;rw [h0];have Vp:Dg t.op (O ts):=by rw [hts];simpa [hl] using hfit
  refine gc (WK t.op ts Vp) ?_;refine tb (x4 (eM t.op ts) 0) (λh5=>?_) (λh5=>?_)
  .refine gr ?_
   refine ⟨_,rfl,?_⟩;simp [j5,X8.typ,e1,e2,h1,h2,h5,wO,c7.I7,Z,o6]
  .refine gr ?_
   refine ⟨_,rfl,?_⟩;simp [j5,X8.typ,e1,e2,h1,h2,h5,wO,c7.I7,Z,o6]
def pair (p:Int×Int):c7:= .tuple [.d (Z p.1),.d (Z p.2)]
set_option maxHeartbeats 2000000 in
def Hh (e:List R2)(ty:List Int)(he:O e<=1000)(ht:O ty<=100000):Pf A 114 [dM e,.d (ints ty)] (pair (J7 e ty)):=by
 refine Pf.gr 3 ?_;refine tc (!V6 e) (WA e he) (λh1=>?_) (λh1=>?_)
 .refine gr ?_
  refine ⟨_,rfl,?_⟩;rw [dN] at h1;cases h2:dP e with
  |none=>simp [J7,h2,j5,pair,Z,c7.I7]
  |some a=>simp [h2] at h1
 rw [dN] at h1;cases h2:dP e with
 |none=>simp [h2] at h1
 |some a =>
 have h3:e=a.flat/\a.wf/\a.dep<=16:=by
  unfold dP at h2;split at h2
  .split at h2
   next b h4=>
    obtain ⟨e1,e2,e3⟩:=Q3 16 e b [] h4;cases h2;exact ⟨by simpa using e1,e2,e3⟩
   .cases h2
  .cases h2
 refine gr ?_;refine Ex.J4 (λk T H=>∃(i:Nat),T=[dM e,.d (ints ty),.any,.any,.d (Z i)]/\H=[]/\i+k=O ty/\aH ty=aH (ty.drop i)) ?_ (k:=O ty) ⟨0,rfl,rfl,U,U⟩;rintro k _ _ ⟨i,rfl,rfl,hk,hi⟩;refine Ex.seq ?_;refine tl i (O ty) (λh5=>?_) (λh5=>?_)
 .rw [C4 V] at hi
  refine gr ?_;refine tb (!x4 (Y ty i) 1&& !x4 (Y ty i) 2) (λh6=>?_) (λh6=>?_)
  .refine gr ?_
   refine ⟨_,rfl,?_⟩;have h7:aH ty=F:=by
    rw [hi];simp only [c9,o3] at h6;simp [aH,h6]
   simp [J7,h2,h7,j5,pair,Z,c7.I7]
  .refine gr ?_
   refine kk ⟨i+1,rfl,rfl,V,?_⟩;rw [hi];simp only [aH,List.all_cons];cases h7:x4 (Y ty i) 1<;>cases h8:x4 (Y ty i) 2<;>simp_all
 .rw [n5 V] at hi
  have h6:=WB ty (O e) a (by rw [h3.1];omega) he h3.2.1 h3.2.2;rw [<- h3.1] at h6;refine gc h6 ?_;refine ⟨_,rfl,?_⟩;have hg:aH ty=W:=by rw [hi];rfl
  simp [J7,h2,hg,j5,pair,c7.I7]
def encS (s:G4):List y9.Data:=[.str s]
set_option maxHeartbeats 4000000 in
def WY (c:o9)(hf:c.eD):Pf A 142 [cat c] (.d (s7 encS c.names)):=by
 obtain ⟨f0,f1,f2,f3,f4,f5,f6,f7⟩:=hf;refine Pf.gr 11 ?_;refine Ex.J4 (λk T H=>∃(i:Nat) (acc:List G4),T=[.any,.ptr 0 0,.any,A8 1 encS acc,.d (Z i),.any,.any,.any,.any,.any,.any,.any]/\H=[.cells (c.enc.map .d)]/\i+k=O c.j7/\acc=([]:List G4)++(c.j7.take i).map cw.name) ?_ (k:=O c.j7) ⟨0,([]:List G4),rfl,rfl,U,U⟩;rintro k _ _ ⟨i,acc,rfl,rfl,hk,hacc⟩;have hl:O acc=0+i:=by rw [hacc];simp;omega
 repeat' (first|refine gy ?_|refine ft (λht=>?_) λht=>?_|refine ⟨_,rfl,?_⟩|fail)
 .have h1:=A7 ht
  refine kk ⟨i+1,acc++[(Y c.j7 i).name],rfl,rfl,V,?_⟩;rw [E4 V,hacc];simp
 have h1:=B8 ht;rw [s4 V] at hacc;clear ht h1 hk hl;subst hacc;refine Ex.J4 (λk T H=>∃(i:Nat) (acc:List G4),T=[.any,.ptr 0 0,.any,A8 1 encS acc,.any,.d (Z i),.any,.any,.any,.any,.any,.any]/\H=[.cells (c.enc.map .d)]/\i+k=O c.views/\acc=c.j7.map cw.name++(c.views.take i).map Vw.name) ?_ (k:=O c.views) ⟨0,c.j7.map cw.name,rfl,rfl,U,U⟩;rintro k _ _ ⟨i,acc,rfl,rfl,hk,hacc⟩;have hl:O acc=0+O c.j7+i:=by rw [hacc];simp;omega
 repeat' (first|refine gy ?_|refine ft (λht=>?_) λht=>?_|refine ⟨_,rfl,?_⟩|fail)
 .have h1:=A7 ht
  refine kk ⟨i+1,acc++[(Y c.views i).name],rfl,rfl,V,?_⟩;rw [E4 V,hacc];simp
 have h1:=B8 ht;rw [s4 V] at hacc;clear ht h1 hk hl;subst hacc;refine Ex.J4 (λk T H=>∃(i:Nat) (acc:List G4),T=[.any,.ptr 0 0,.any,A8 1 encS acc,.any,.any,.d (Z i),.any,.any,.any,.any,.any]/\H=[.cells (c.enc.map .d)]/\i+k=O c.idxs/\acc=c.j7.map cw.name++c.views.map Vw.name++(c.idxs.take i).map gZ.name) ?_ (k:=O c.idxs) ⟨0,c.j7.map cw.name++c.views.map Vw.name,rfl,rfl,U,U⟩;rintro k _ _ ⟨i,acc,rfl,rfl,hk,hacc⟩;have hl:O acc=0+O c.j7+O c.views+i:=by rw [hacc];simp;omega
 repeat' (first|refine gy ?_|refine ft (λht=>?_) λht=>?_|refine ⟨_,rfl,?_⟩|fail)
 .have h1:=A7 ht
  refine kk ⟨i+1,acc++[(Y c.idxs i).name],rfl,rfl,V,?_⟩;rw [E4 V,hacc];simp
 have h1:=B8 ht;rw [s4 V] at hacc;clear ht h1 hk hl;subst hacc;refine Ex.J4 (λk T H=>∃(i:Nat) (acc:List G4),T=[.any,.ptr 0 0,.any,A8 1 encS acc,.any,.any,.any,.d (Z i),.any,.any,.any,.any]/\H=[.cells (c.enc.map .d)]/\i+k=O c.G7/\acc=c.j7.map cw.name++c.views.map Vw.name++c.idxs.map gZ.name++(c.G7.take i).map gW.name) ?_ (k:=O c.G7) ⟨0,c.j7.map cw.name++c.views.map Vw.name++c.idxs.map gZ.name,rfl,rfl,U,U⟩;rintro k _ _ ⟨i,acc,rfl,rfl,hk,hacc⟩;have hl:O acc=0+O c.j7+O c.views+O c.idxs+i:=by rw [hacc];simp;omega
 repeat' (first|refine gy ?_|refine ft (λht=>?_) λht=>?_|refine ⟨_,rfl,?_⟩|fail)
 .have h1:=A7 ht
  refine kk ⟨i+1,acc++[(Y c.G7 i).name],rfl,rfl,V,?_⟩;rw [E4 V,hacc];simp
 have h1:=B8 ht;rw [s4 V] at hacc;clear ht h1 hk hl;subst hacc;refine Ex.J4 (λk T H=>∃(i:Nat) (acc:List G4),T=[.any,.ptr 0 0,.any,A8 1 encS acc,.any,.any,.any,.any,.d (Z i),.any,.any,.any]/\H=[.cells (c.enc.map .d)]/\i+k=O c.I5/\acc=c.j7.map cw.name++c.views.map Vw.name++c.idxs.map gZ.name++c.G7.map gW.name++(c.I5.take i).map jK.name) ?_ (k:=O c.I5) ⟨0,c.j7.map cw.name++c.views.map Vw.name++c.idxs.map gZ.name++c.G7.map gW.name,rfl,rfl,U,U⟩;rintro k _ _ ⟨i,acc,rfl,rfl,hk,hacc⟩;have hl:O acc=0+O c.j7+O c.views+O c.idxs+O c.G7+i:=by rw [hacc];simp;omega
 repeat' (first|refine gy ?_|refine ft (λht=>?_) λht=>?_|refine ⟨_,rfl,?_⟩|fail)
 .have h1:=A7 ht
  refine kk ⟨i+1,acc++[(Y c.I5 i).name],rfl,rfl,V,?_⟩;rw [E4 V,hacc];simp
 have h1:=B8 ht;rw [s4 V] at hacc;clear ht h1 hk hl;subst hacc;refine Ex.J4 (λk T H=>∃(i:Nat) (acc:List G4),T=[.any,.ptr 0 0,.any,A8 1 encS acc,.any,.any,.any,.any,.any,.d (Z i),.any,.any]/\H=[.cells (c.enc.map .d)]/\i+k=O c.J5/\acc=c.j7.map cw.name++c.views.map Vw.name++c.idxs.map gZ.name++c.G7.map gW.name++c.I5.map jK.name++(c.J5.take i).map jD.name) ?_ (k:=O c.J5) ⟨0,c.j7.map cw.name++c.views.map Vw.name++c.idxs.map gZ.name++c.G7.map gW.name++c.I5.map jK.name,rfl,rfl,U,U⟩;rintro k _ _ ⟨i,acc,rfl,rfl,hk,hacc⟩;have hl:O acc=0+O c.j7+O c.views+O c.idxs+O c.G7+O c.I5+i:=by rw [hacc];simp;omega
 repeat' (first|refine gy ?_|refine ft (λht=>?_) λht=>?_|refine ⟨_,rfl,?_⟩|fail)
 .have h1:=A7 ht
  refine kk ⟨i+1,acc++[(Y c.J5 i).name],rfl,rfl,V,?_⟩;rw [E4 V,hacc];simp
 have h1:=B8 ht;rw [s4 V] at hacc;clear ht h1 hk hl;subst hacc;refine Ex.J4 (λk T H=>∃(i:Nat) (acc:List G4),T=[.any,.ptr 0 0,.any,A8 1 encS acc,.any,.any,.any,.any,.any,.any,.d (Z i),.any]/\H=[.cells (c.enc.map .d)]/\i+k=O c.J6/\acc=c.j7.map cw.name++c.views.map Vw.name++c.idxs.map gZ.name++c.G7.map gW.name++c.I5.map jK.name++c.J5.map jD.name++(c.J6.take i).map me.name) ?_ (k:=O c.J6) ⟨0,c.j7.map cw.name++c.views.map Vw.name++c.idxs.map gZ.name++c.G7.map gW.name++c.I5.map jK.name++c.J5.map jD.name,rfl,rfl,U,U⟩;rintro k _ _ ⟨i,acc,rfl,rfl,hk,hacc⟩;have hl:O acc=0+O c.j7+O c.views+O c.idxs+O c.G7+O c.I5+O c.J5+i:=by rw [hacc];simp;omega
 repeat' (first|refine gy ?_|refine ft (λht=>?_) λht=>?_|refine ⟨_,rfl,?_⟩|fail)
 .have h1:=A7 ht
  refine kk ⟨i+1,acc++[(Y c.J6 i).name],rfl,rfl,V,?_⟩;rw [E4 V,hacc];simp
 have h1:=B8 ht;rw [s4 V] at hacc;clear ht h1 hk hl;subst hacc;refine Ex.J4 (λk T H=>∃(i:Nat) (acc:List G4),T=[.any,.ptr 0 0,.any,A8 1 encS acc,.any,.any,.any,.any,.any,.any,.any,.d (Z i)]/\H=[.cells (c.enc.map .d)]/\i+k=O c.L4/\acc=c.j7.map cw.name++c.views.map Vw.name++c.idxs.map gZ.name++c.G7.map gW.name++c.I5.map jK.name++c.J5.map jD.name++c.J6.map me.name++(c.L4.take i).map mc.name) ?_ (k:=O c.L4) ⟨0,c.j7.map cw.name++c.views.map Vw.name++c.idxs.map gZ.name++c.G7.map gW.name++c.I5.map jK.name++c.J5.map jD.name++c.J6.map me.name,rfl,rfl,U,U⟩;rintro k _ _ ⟨i,acc,rfl,rfl,hk,hacc⟩;have hl:O acc=0+O c.j7+O c.views+O c.idxs+O c.G7+O c.I5+O c.J5+O c.J6+i:=by rw [hacc];simp;omega
 repeat' (first|refine gy ?_|refine ft (λht=>?_) λht=>?_|refine ⟨_,rfl,?_⟩|fail)
 .have h1:=A7 ht
  refine kk ⟨i+1,acc++[(Y c.L4 i).name],rfl,rfl,V,?_⟩;rw [E4 V,hacc];simp
 have h1:=B8 ht;rw [s4 V] at hacc;clear ht h1 hk hl;subst hacc;simp [j5,s7,A8,o9.names]
def o9.sn (c:o9):List G4:=c.j7.map cw.name++c.views.map Vw.name
def o9.ns (c:o9):Nat:=O c.j7+O c.views
def F7 (name:G4):List G4->Nat->Int
 |[],_=> -1
 |x::r,i=>if K3 x name then i else F7 name r (i+1)
def E5 (c:o9)(name:G4)(n:Nat):Int:=F7 name ((o9.sn c).take n) 0
theorem S7 (c:o9):O (o9.sn c)=o9.ns c:=by simp [o9.sn,o9.ns]
def vQ (c:o9){i:Nat}(h:i<o9.ns c):Y c.names i=Y (o9.sn c) i:=by
 have h1:c.names=o9.sn c++(c.idxs.map gZ.name++c.G7.map gW.name++c.I5.map jK.name++c.J5.map jD.name++c.J6.map me.name++c.L4.map mc.name):=by simp [o9.names,o9.sn]
 have h2:i<O (o9.sn c):=by grind [S7]
 grind [D6,List.getElem_append_left]
theorem Q1 (c:o9):o9.ns c<=O c.names:=by simp [o9.names,o9.ns]
def AJ (c:o9)(name:G4)(n:Nat)(hf:c.eD)(hn:n<=100000):Pf A 112 [cat c,.d (.str name),.d (Z n)] (.d (Z (E5 c name n))):=by
 have hl:=Q1 c;have hc:o9.ns c<=2000:=by obtain ⟨f0,f1,_⟩:=hf;grind [o9.ns]
 have hs:=S7 c;have nR :O c.j7+O c.views<=2000:=hc;refine Pf.go 4 ?_;refine gc (WY c hf) ?_;refine Ex.yU (λk T H=>∃(i:Nat) (v w:c7),T=[v,.d (.str name),.d (Z n),.ptr 0 0,w,.d (s7 encS c.names),.d (Z i)]/\H=[.cells (c.enc.map .d)]/\i+k=o9.ns c/\i<=n/\E5 c name n=F7 name (((o9.sn c).take n).drop i) i) M ?_ (k:=o9.ns c) ⟨0,_,_,rfl,rfl,U,V,by simp [E5]⟩;rintro k _ _ ⟨i,v,w,rfl,rfl,hk,hin,hi⟩;refine Ex.nT ?_;refine Ex.seq ?_;refine tB (D5 i n&&D5 i (o9.ns c)) ?_ (λh1=>?_) (λh1=>?_)
 .repeat' (first|refine gx ?_|refine fk (h1:=λhw=>?_) (h2:=λhw=>?_)|refine ⟨rfl,rfl,_,rfl,?_⟩|fail)
  all_goals grind [j5,o9.ns,y4,x6,o6,F3]
 .simp [c9] at h1
  have h2:=A7 h1.1;have h3:=A7 h1.2;have h4:((o9.sn c).take n).drop i=Y (o9.sn c) i::((o9.sn c).take n).drop (i+1):=by
   grind [C4,D6]
  rw [h4,<- vQ c V] at hi
  repeat' (first|refine gx ?_|refine Ex.test (Rn.text ?_)|refine ⟨_,rfl,λht=>?_,λht=>?_⟩|refine ⟨_,rfl,?_⟩|fail)
  .grind [F7,j5,Z]
  .exact kk ⟨i+1,_,_,rfl,rfl,V,V,by grind [F7]⟩
 .repeat' (first|refine gx ?_|refine ⟨_,rfl,?_⟩|fail)
  grind [o9.sn,n5,y4,F7,j5,Z]
def cL (c:o9)(name:G4)(n:Nat):Int:=E5 c name (min n (O c.j7))
def LU (c:o9)(name:G4)(n:Nat)(hf:c.eD)(hn:n<=100000):Pf A 207 [cat c,.d (.str name),.d (Z n)] (.d (Z (cL c name n))):=by
 refine Pf.gr 2 ?_;have e:(if (O c.j7:Int)<(n:Int) then (O c.j7:Int) else (n:Int))=((min n (O c.j7):Nat):Int):=by split<;>omega
 refine cl (AJ c name (min n (O c.j7)) hf V) ?_ (ha:=by rw [Z,<- e];rfl);refine gr ?_;exact ⟨_,rfl,rfl⟩
def R1 (t:cw):Int->List Int->Bool
 |_,[]=>W
 |p,o::r=>D5 p o&&D5 o (O t.o7)&& !(K3 (Y t.o7 o.toNat).space []&&K3 (Y t.o7 o.toNat).refs [])&&R1 t o r
def M6 (t:cw):c7:= .agg (t.enc.map .d)
def Wz (t:cw)(xs:List Int)(hx:O xs<=1000)(hc:O t.o7<=1000):Pf A 245 [M6 t,.d (ints xs)] (.d (.bool (R1 t (-1) xs))):=by
 refine Pf.gr 3 ?_;refine Ex.J4 (λk T H=>∃(i:Nat) (p:Int),T=[.any,.d (ints xs),.ptr 0 0,.any,.d (Z i)]/\H=[.cells (t.enc.map .d)]/\i+k=O xs/\p=(if i=0 then -1 else Y xs (i - 1))/\ -1<=p/\R1 t (-1) xs=R1 t p (xs.drop i)) ?_ (k:=O xs) ⟨0, -1,rfl,rfl,U,U,V,U⟩;rintro k _ _ ⟨i,p,rfl,rfl,hk,hp,hp1,hi⟩;refine Ex.seq ?_;refine tb (D5 i (O xs)) (λh1=>?_) (λh1=>?_)
 .have h2:=A7 h1
  rw [C4 V] at hi;have hq:(((i:Int) - 1).toNat)=i - 1:=V
  refine gr ?_;refine tB (!(p9 (Y xs i) 0 (O t.o7 - 1))||(D5 0 i&&T5 (Y xs i) (Y xs (i - 1)))||(K3 (Y t.o7 (Y xs i).toNat).space []&&K3 (Y t.o7 (Y xs i).toNat).refs [])) ?_ (λh3=>?_) (λh3=>?_)
  .repeat' (first|refine cl (nK _ _ _) ?_|refine gx ?_|refine fk (h1:=λhw=>?_) (h2:=λhw=>?_)|refine ⟨rfl,rfl,_,rfl,?_⟩|fail)
   all_goals first|(simp [*,j5,hq];done)|(simp_all [j5,hq];done)
  .refine gr ?_
   refine ⟨_,rfl,?_⟩;have h5:(D5 p (Y xs i)&&D5 (Y xs i) (O t.o7)&& !(K3 (Y t.o7 (Y xs i).toNat).space []&&K3 (Y t.o7 (Y xs i).toNat).refs []))=F:=by
    rcases hS:(K3 (Y t.o7 (Y xs i).toNat).space []&&K3 (Y t.o7 (Y xs i).toNat).refs []) with _|_
    .simp [hS,p9,y4,x6] at h3 ⊢
     by_cases h0:i=0
     .simp [h0] at hp h3 ⊢;omega
     .simp [h0] at hp;omega
    .simp
   rw [hi,R1,h5];simp [j5]
  .refine gr ?_
   have h5:D5 p (Y xs i)=W/\D5 (Y xs i) (O t.o7)=W/\(K3 (Y t.o7 (Y xs i).toNat).space []&&K3 (Y t.o7 (Y xs i).toNat).refs [])=F:=by
    simp only [C7] at h3;refine ⟨?_,?_,h3.2⟩
    .simp [p9,y4,x6] at h3 ⊢
     by_cases h0:i=0
     .simp [h0] at hp h3 ⊢;omega
     .simp [h0] at hp;omega
    .simp [p9,y4,x6] at h3 ⊢
     omega
   refine kk ⟨i+1,Y xs i,rfl,rfl,V,U,?_,?_⟩
   .have:=A7 h5.1;omega
   .rw [hi,R1,h5.1,h5.2.1,h5.2.2]
    simp
 .refine gr ?_
  have h2:=B8 h1;rw [n5 V] at hi;exact ⟨_,rfl,by simp [hi,R1,j5]⟩
def U6 (c:o9)(n i:Nat):Int :=
 if !J3 (Y (Y c.j7 n).o7 i).name||(!K3 (Y (Y c.j7 n).o7 i).space []&& !J3 (Y (Y c.j7 n).o7 i).space) then 3
 else if ((Y c.j7 n).o7.take i).any λy=>K3 y.name (Y (Y c.j7 n).o7 i).name then 4
 else if !K3 (Y (Y c.j7 n).o7 i).refs []&&D5 (cL c (Y (Y c.j7 n).o7 i).refs n) 0 then 7
 else if (!x4 (Y (Y c.j7 n).o7 i).type 1&& !x4 (Y (Y c.j7 n).o7 i).type 2)||(T5 0 (cL c (Y (Y c.j7 n).o7 i).refs n)&& !K3 (Y (Y c.j7 n).o7 i).refs []&& !x4 (Y (Y c.j7 (cL c (Y (Y c.j7 n).o7 i).refs n).toNat).o7 0).type (Y (Y c.j7 n).o7 i).type) then 5
 else if (!K3 (Y (Y c.j7 n).o7 i).space []&& !K3 (Y (Y c.j7 n).o7 i).refs [])|| !R1 (Y c.j7 n) (-1) (Y (Y c.j7 n).o7 i).C6|| !p9 (Y (Y c.j7 n).o7 i).bU 0 1||(x4 (O (Y (Y c.j7 n).o7 i).C6) 0&&(!x4 (Y (Y c.j7 n).o7 i).bU 0|| !x4 (Y (Y c.j7 n).o7 i).fZ 0)) then 1
 else if !p9 (Y (Y c.j7 n).o7 i).fZ 0 1048576||(!x4 (Y c.j7 n).Z7 0&&D5 (Y c.j7 n).Z7 (Y (Y c.j7 n).o7 i).fZ)||(x4 i 0&&D5 0 (O (Y (Y c.j7 n).o7 i).C6)&& !x4 (Y c.j7 n).erase 1) then 1
 else if (!K3 (Y (Y c.j7 n).o7 i).refs []&&D5 0 (O (Y (Y c.j7 (cL c (Y (Y c.j7 n).o7 i).refs n).toNat).o7 0).C6))&& !hasB (Y (Y c.j7 n).o7 i).C6 i then 1
 else 0
theorem dG (name:G4):∀(l:List G4) (i:Nat),F7 name l i= -1\/((i:Int)<=F7 name l i/\F7 name l i<i+O l)
 |[],i=>Or.inl rfl
 |x::r,i=>by
  simp only [F7];split
  .simp;omega
  .rcases dG name r (i+1) with h|h
   .exact Or.inl h
   .simp;omega
def FM (c:o9)(name:G4)(n:Nat):cL c name n= -1\/(0<=cL c name n/\cL c name n<n/\cL c name n<O c.j7):=by
 unfold cL E5
 rcases dG name ((o9.sn c).take (min n (O c.j7))) 0 with h|h
 .exact Or.inl h
 .simp at h
  omega
set_option maxHeartbeats 8000000 in
def ar0 (c:o9)(n i:Nat)(hf:c.eD)(hn:n<O c.j7)(hi:i<O (Y c.j7 n).o7)(hl:O (Y c.j7 n).o7<=1000)(ho:O (Y (Y c.j7 n).o7 i).C6<=1000)(hp:∀m,m<n->0<O (Y c.j7 m).o7):Pf A 199 [cat c,.d (Z n),.d (Z i)] (.d (Z (U6 c n i))):=by
 have hn2:n<=1000:=by obtain ⟨f0,_⟩:=hf;omega
 have hb:cL c (Y (Y c.j7 n).o7 i).refs n= -1\/(0<=cL c (Y (Y c.j7 n).o7 i).refs n/\cL c (Y (Y c.j7 n).o7 i).refs n<n/\cL c (Y (Y c.j7 n).o7 i).refs n<O c.j7/\0<O (Y c.j7 (cL c (Y (Y c.j7 n).o7 i).refs n).toNat).o7):=by
  rcases FM c (Y (Y c.j7 n).o7 i).refs n with h|h
  .exact Or.inl h
  .exact Or.inr ⟨h.1,h.2.1,h.2.2,hp _ V⟩
 refine Pf.gr 6 ?_;refine tc (!J3 (Y (Y c.j7 n).o7 i).name||(!K3 (Y (Y c.j7 n).o7 i).space []&& !J3 (Y (Y c.j7 n).o7 i).space)) Te (λh1=>?_) (λh1=>?_)
 .refine gr ?_
  exact ⟨_,rfl,by simp only [j5,Z,U6,h1,j6,if_true,if_false]⟩
 refine gr ?_;refine Ex.J4 (λk T H=>∃(j:Nat),T=[.any,.d (Z n),.d (Z i),.ptr 0 0,.any,.ptr 1 0,.ptr 2 0,.d (Z j),.any]/\H=[.cells (c.enc.map .d),.cells ((Y c.j7 n).enc.map .d),.cells ((Y (Y c.j7 n).o7 i).enc.map .d)]/\j+k=i/\(((Y c.j7 n).o7.take i).any λy=>K3 y.name (Y (Y c.j7 n).o7 i).name)=((((Y c.j7 n).o7.take i).drop j).any λy=>K3 y.name (Y (Y c.j7 n).o7 i).name)) ?_ (k:=i) ⟨0,rfl,rfl,U,U⟩;rintro k _ _ ⟨j,rfl,rfl,hk,hj⟩;refine Ex.seq ?_;refine tb (D5 j i) (λh8=>?_) (λh8=>?_)
 .have h9:=A7 h8
  rw [gV V V] at hj
  repeat' (first|refine gy ?_|refine ft (λht=>?_) λht=>?_|refine ⟨_,rfl,?_⟩|fail)
  .have h2:(((Y c.j7 n).o7.take i).any λy=>K3 y.name (Y (Y c.j7 n).o7 i).name)=W:=by rw [hj];simp [ht]
   simp only [j5,Z,U6,h1,h2,j6,if_true,if_false]
  .exact kk ⟨j+1,rfl,rfl,V,by rw [hj];simp [ht]⟩
 have h9:=B8 h8;rw [n5 D] at hj;have h2:(((Y c.j7 n).o7.take i).any λy=>K3 y.name (Y (Y c.j7 n).o7 i).name)=F:=by rw [hj];rfl
 clear hj h8 hk;refine gc (LU c (Y (Y c.j7 n).o7 i).refs n hf V) ?_;refine tb (!K3 (Y (Y c.j7 n).o7 i).refs []&&D5 (cL c (Y (Y c.j7 n).o7 i).refs n) 0) (λh3=>?_) (λh3=>?_)
 .refine gr ?_
  exact ⟨_,rfl,by simp only [j5,Z,U6,h1,h2,h3,j6,if_true,if_false]⟩
 have XV :(!K3 (Y (Y c.j7 n).o7 i).refs [])=W->0<=cL c (Y (Y c.j7 n).o7 i).refs n:=λh=>by
  simp only [h,Bool.true_and] at h3;exact B8 h3
 have h3q:(!K3 (Y (Y c.j7 n).o7 i).refs [])=W->0<O (Y c.j7 (cL c (Y (Y c.j7 n).o7 i).refs n).toNat).o7:=λh=>by have:=XV h;omega
 refine tb ((!x4 (Y (Y c.j7 n).o7 i).type 1&& !x4 (Y (Y c.j7 n).o7 i).type 2)||(T5 0 (cL c (Y (Y c.j7 n).o7 i).refs n)&& !K3 (Y (Y c.j7 n).o7 i).refs []&& !x4 (Y (Y c.j7 (cL c (Y (Y c.j7 n).o7 i).refs n).toNat).o7 0).type (Y (Y c.j7 n).o7 i).type)) (λh4=>?_) (λh4=>?_)
 .refine gr ?_
  exact ⟨_,rfl,by simp only [j5,Z,U6,h1,h2,h3,h4,j6,if_true,if_false]⟩
 refine tc ((!K3 (Y (Y c.j7 n).o7 i).space []&& !K3 (Y (Y c.j7 n).o7 i).refs [])|| !R1 (Y c.j7 n) (-1) (Y (Y c.j7 n).o7 i).C6|| !p9 (Y (Y c.j7 n).o7 i).bU 0 1||(x4 (O (Y (Y c.j7 n).o7 i).C6) 0&&(!x4 (Y (Y c.j7 n).o7 i).bU 0|| !x4 (Y (Y c.j7 n).o7 i).fZ 0))) (And.intro (Wz (Y c.j7 n) (Y (Y c.j7 n).o7 i).C6 ho hl) nK) (λh5=>?_) (λh5=>?_)
 .refine gr ?_
  exact ⟨_,rfl,by simp only [j5,Z,U6,h1,h2,h3,h4,h5,j6,if_true,if_false]⟩
 refine tc (!p9 (Y (Y c.j7 n).o7 i).fZ 0 1048576||(!x4 (Y c.j7 n).Z7 0&&D5 (Y c.j7 n).Z7 (Y (Y c.j7 n).o7 i).fZ)||(x4 i 0&&D5 0 (O (Y (Y c.j7 n).o7 i).C6)&& !x4 (Y c.j7 n).erase 1)) nK (λh6=>?_) (λh6=>?_)
 .refine gr ?_
  exact ⟨_,rfl,by simp only [j5,Z,U6,h1,h2,h3,h4,h5,h6,j6,if_true,if_false]⟩
 refine tB ((!K3 (Y (Y c.j7 n).o7 i).refs []&&D5 0 (O (Y (Y c.j7 (cL c (Y (Y c.j7 n).o7 i).refs n).toNat).o7 0).C6))&& !hasB (Y (Y c.j7 n).o7 i).C6 i) ?_ (λh7=>?_) (λh7=>?_)
 .repeat' (first|refine cl (aq7 (Y (Y c.j7 n).o7 i).C6 i ho) ?_|refine Yq (hi:=⟨XV hw,V⟩) (h2:=?_)|refine ixN (hi:=h3q hw) (h2:=?_)|refine gx ?_|refine fq (λhw=>?_) λhw=>?_|refine ⟨rfl,rfl,_,rfl,?_⟩|refine ⟨rfl,rfl⟩|fail)
  all_goals exact cc
 .refine gr ?_
  exact ⟨_,rfl,by simp only [j5,Z,U6,h1,h2,h3,h4,h5,h6,h7,j6,if_true,if_false]⟩
 refine gr ?_;exact ⟨_,rfl,by simp only [j5,Z,U6,h1,h2,h3,h4,h5,h6,h7,j6,if_true,if_false]⟩
def br (c:o9)(n:Nat):Nat->Nat->Int
 |0,_=>0
 |k+1,i=>if !x4 (U6 c n i) 0 then U6 c n i else br c n k (i+1)
def bF (c:o9)(n:Nat):Int :=
 if !p9 (O (Y c.j7 n).o7) 1 8|| !p9 (Y c.j7 n).erase 0 1|| !p9 (Y c.j7 n).Z7 0 1048576 then 1 else br c n (O (Y c.j7 n).o7) 0
structure o9.small (c:o9):Prop where
 eD:c.eD
 o7:∀n,n<O c.j7->O (Y c.j7 n).o7<=1000
 C6:∀n i,n<O c.j7->i<O (Y c.j7 n).o7->O (Y (Y c.j7 n).o7 i).C6<=1000
def aq2 (c:o9)(n:Nat)(hf:o9.small c)(hn:n<O c.j7)(hp:∀m,m<n->0<O (Y c.j7 m).o7):Pf A 144 [cat c,.d (Z n)] (.d (Z (bF c n))):=by
 have hl:=hf.o7 n hn;refine Pf.gr 5 ?_;refine tc (!p9 (O (Y c.j7 n).o7) 1 8|| !p9 (Y c.j7 n).erase 0 1|| !p9 (Y c.j7 n).Z7 0 1048576) nK (λh1=>?_) (λh1=>?_)
 .refine gr ?_
  exact ⟨_,rfl,by simp only [j5,Z,bF,h1,if_true]⟩
 refine gr ?_;refine Ex.bW (λk T H=>∃(i:Nat) (v w z:c7),T=[v,.d (Z n),.ptr 0 0,w,.ptr 1 0,.d (Z i),z]/\H=[.cells (c.enc.map .d),.cells ((Y c.j7 n).enc.map .d)]/\i+k=O (Y c.j7 n).o7/\bF c n=br c n k i) ?_ (k:=O (Y c.j7 n).o7) ⟨0,_,_,_,rfl,rfl,U,by simp only [bF,h1,j6,if_false]⟩;rintro k _ _ ⟨i,v,w,z,rfl,rfl,hk,hi⟩;refine Ex.nT ?_;refine Ex.seq ?_;refine tb (D5 i (O (Y c.j7 n).o7)) (λh2=>?_) (λh2=>?_)
 .have h3:=A7 h2
  obtain ⟨k,rfl⟩:∃k',k=k' +1:=⟨k - 1,V⟩
  repeat' (first|refine cl (ar0 c n i hf.eD hn V hl (hf.C6 n i hn V) hp) ?_|refine gy ?_|refine ft (λht=>?_) λht=>?_|refine ⟨_,rfl,?_⟩|fail)
  .simp [j5,hi,br,ht]
  .exact ⟨k,V,i+1,_,_,_,rfl,rfl,V,by simp [hi,br,ht]⟩
 .have h3:=B8 h2
  obtain rfl:k=0:=V
  refine gr ?_;exact ⟨_,rfl,by simp [j5,hi,br,Z]⟩
def gU (v:Vw):Bool:=(!K3 v.right []||x4 (O v.on) 0)&&T5 (O v.on) 8&&T5 (O v.items+O v.F6) 8
def Y6 (v:Vw):Bool :=
 if x4 v.kind 2 then !K3 v.right []&&x4 (O v.on) 0&&x4 (O v.wh) 0&&x4 (O v.items) 0&&x4 (O v.F6) 0&& !v.distinct
 else if x4 v.kind 0 then !(x4 (O v.items) 0||D5 0 (O v.F6))&&gU v
 else !(x4 (O v.F6) 0||v.distinct)&&gU v
def vw (v:Vw):c7:= .agg (v.enc.map .d)
set_option maxHeartbeats 8000000 in
def ar1 (c:o9)(v:Vw)(h0:O v.items<=1000)(h1:O v.F6<=1000):Pf A 200 [cat c,vw v] (.d (.bool (Y6 v))):=by
 refine Pf.go 3 ?_
 repeat' (first|refine gy ?_|refine fq (λhw=>?_) λhw=>?_|refine ⟨_,rfl,?_⟩|fail)
 all_goals first|(simp [*,j5,Y6,gU];done)|(simp_all [j5,Y6,gU];done)|(simp_all [j5,Y6,gU,y4,x6,o6,F3];done)|(simp_all [j5,Y6,gU,y4,x6,o6,F3]<;>omega)
def L6 (l r:List Int):List (Int×Int)->Int
 |[]=>0
 |p::ps=>if !p9 p.1 0 (O l - 1)|| !p9 p.2 0 (O r - 1) then 3 else if !x4 (Y l p.1.toNat) (Y r p.2.toNat) then 5 else L6 l r ps
def ar3 (on:List (Int×Int))(l r:List Int)(h0:O on<=1000)(h1:O l<=100000)(h2:O r<=100000):Pf A 202 [.d (s7 (λp=>[Z p.1,Z p.2]) on),.d (ints l),.d (ints r)] (.d (Z (L6 l r on))):=by
 refine Pf.gr 2 ?_;refine Ex.J4 (λk T H=>∃(i:Nat),T=[.d (s7 (λp=>[Z p.1,Z p.2]) on),.d (ints l),.d (ints r),.any,.d (Z i)]/\H=[]/\i+k=O on/\L6 l r on=L6 l r (on.drop i)) ?_ (k:=O on) ⟨0,rfl,rfl,U,U⟩;rintro k _ _ ⟨i,rfl,rfl,hk,hi⟩;refine Ex.seq ?_;refine tl i (O on) (λh4=>?_) (λh4=>?_)
 .rw [C4 V] at hi
  refine gr ?_;refine tc (!p9 (Y on i).1 0 (O l - 1)|| !p9 (Y on i).2 0 (O r - 1)) nK (λh5=>?_) (λh5=>?_)
  .refine gr ?_
   exact ⟨_,rfl,by simp only [j5,Z,hi,L6,h5,if_true]⟩
  have h6:=h5;simp [p9,x6] at h6
  repeat' (first|refine gy ?_|refine ft (λht=>?_) λht=>?_|refine ⟨_,rfl,?_⟩|fail)
  .simp only [j5,Z,hi,L6,h5,ht,j6,if_true,if_false]
  .exact kk ⟨i+1,rfl,rfl,V,by simp only [hi,L6,h5,ht,j6,if_false]⟩
 .rw [n5 V] at hi
  refine gr ?_;exact ⟨_,rfl,by simp [j5,hi,L6,Z]⟩
end Go.Proofs.YtibjocmpkoepoaaGreat

