import Derived.Test.YtibjocmpkoepoaaGreatAbs
set_option linter.all false
open Bool renaming and_eq_true→c8,false_eq_true→e8,not_eq_false'→D5,not_eq_true'→o8,or_eq_false_iff→E5,true→W,false→F
open List renaming append_assoc→M3,drop_of_length_le→o7,length_append→s9,mem_cons→C4,take_of_length_le→y6,length→O
open Nat renaming lt_or_ge→x9
open Option renaming some→J,none→K
namespace Go.Proofs.YtibjocmpkoepoaaGreat
open Go.B3 Go.B3.S
attribute [local irreducible] Rx Ry Rn Ex Pf
def dF (n:Int):Bool:=bC 97 n&&bC n 122
def mI (n:Int):Bool:=bC 48 n&&bC n 57
def oH (n:Int):Bool:=dF n||mI n||A1 n 95
def M5:M6->Bool
 |[]=>F
 |c::r=>J2 (O r) 16&&dF c.toNat&&(c::r).all λc=>oH c.toNat
def bh9 (n:Int):Pf A 197 [.d (.int .u8 n)] (.d (.bool (dF n))):=by
 refine Pf.go 1 ?_
 repeat' (first|refine gy ?_|refine fq (λhw=>?_) λhw=>?_|refine ⟨_,rfl,?_⟩|fail)
 all_goals simp_all [j5,dF]
def bf4 (n:Int):Pf A 244 [.d (.int .u8 n)] (.d (.bool (mI n))):=by
 refine Pf.go 1 ?_
 repeat' (first|refine gy ?_|refine fq (λhw=>?_) λhw=>?_|refine ⟨_,rfl,?_⟩|fail)
 all_goals simp_all [j5,mI]
def bO7 (n:Int):Pf A 198 [.d (.int .u8 n)] (.d (.bool (oH n))):=by
 refine Pf.go 1 ?_
 repeat' (first|refine cl (bh9 _) ?_|refine cl (bf4 _) ?_|refine gy ?_|refine fq (λhw=>?_) λhw=>?_|refine ⟨_,rfl,?_⟩|fail)
 all_goals simp_all [j5,oH]
def aN6 (s:M6):Pf A 143 [.d (.str s)] (.d (.bool (M5 s))):=by
 refine Pf.gr 2 ?_;refine Ex.jl (match s with|[]=>W|c::r=> !(J2 (O r) 16&&dF c.toNat)) (Rn.text ?_) (λht=>?_) (λht=>?_)
 .repeat' (first|refine cl (bh9 _) ?_|refine gx ?_|refine fq (λhw=>?_) λhw=>?_|refine ⟨rfl,rfl,_,rfl,?_⟩|refine ⟨rfl,rfl⟩|fail)
  all_goals cases s
  all_goals first|(simp [*,j5,V8];done)|(simp_all [j5,V8];done)|(simp_all [j5,V8,A5,A7,p7,I5];done)|(simp_all [j5,V8,A5,A7,p7,I5]<;>omega)
 .refine gr ?_
  refine ⟨_,rfl,?_⟩;cases s with
  |nil=>rfl
  |cons c r =>
   simp only [o8] at ht;simp only [M5,ht,j5,Bool.false_and]
 .cases s with
  |nil=>cases ht
  |cons c r =>
  have hl:=ht;simp [A5] at hl;have hb:O (c::r)<=16:=D
  refine gr ?_;refine Ex.R8 (λk T H=>∃(i:Nat),T=[.d (.str (c::r)),.any,.d (.int .i64 i)]/\H=[]/\i+k=O (c::r)/\M5 (c::r)=((c::r).drop i).all λc=>oH c.toNat) ?_ (k:=O (c::r)) ⟨0,rfl,rfl,U,by simp [M5,hl,A5]⟩;rintro k _ _ ⟨i,rfl,rfl,hk,hi⟩
  repeat' (first|refine cl (bO7 _) ?_|refine gy ?_|refine ft (λht=>?_) λht=>?_|refine ⟨_,rfl,?_⟩|fail)
  .simp only [o8] at ht
   simp only [j5];have h1:=F5 ‹_›;rw [hi,E3 V];simp [ht]
  .have h1:=F5 ‹_›
   rw [E3 V] at hi;simp only [D5] at ht;refine kk ⟨i+1,rfl,rfl,V,?_⟩;rw [hi];simp [ht]
  .have h1:=G7 ‹_›
   rw [o7 V] at hi;simp [hi,j5]
def uG (n a b:Int):Pf A 111 [.d (Z n),.d (Z a),.d (Z b)] (.d (.bool (s4 n a b))):=by
 refine Pf.go 1 ?_
 repeat' (first|refine gy ?_|refine fq (λhw=>?_) λhw=>?_|refine ⟨_,rfl,?_⟩|fail)
 all_goals first|(simp [*,j5,s4];done)|(simp_all [j5,s4];done)|(simp_all [j5,s4,A5,A7,p7,I5];done)|(simp_all [j5,s4,A5,A7,p7,I5]<;>omega)
def qN (n a b:Int):Pf A 210 [.d (Z n),.d (Z a),.d (Z b)] (.d (.bool (s4 n a b))):=by
 refine Pf.go 1 ?_
 repeat' (first|refine gy ?_|refine fq (λhw=>?_) λhw=>?_|refine ⟨_,rfl,?_⟩|fail)
 all_goals first|(simp [*,j5,s4];done)|(simp_all [j5,s4];done)|(simp_all [j5,s4,A5,A7,p7,I5];done)|(simp_all [j5,s4,A5,A7,p7,I5]<;>omega)
def bf8 (n:Int):Pf A 250 [.d (Z n)] (.d (.bool (A1 n 1||A1 n 2))):=by
 refine Pf.go 1 ?_
 repeat' (first|refine gy ?_|refine fq (λhw=>?_) λhw=>?_|refine ⟨_,rfl,?_⟩|fail)
 all_goals exact cc
def ints (l:List Int):B3.Data:=B8 (λn=>[Z n]) l
def hasB (l:List Int)(n:Int):Bool:=l.any λx=>A1 x n
def bO5 (xs:List Int)(n:Int)(hx:O xs<=1000):Pf A 246 [.d (ints xs),.d (Z n)] (.d (.bool (hasB xs n))):=by
 refine Pf.gr 2 ?_;refine Ex.R8 (λk T H=>∃(i:Nat),T=[.d (ints xs),.d (Z n),.any,.d (Z i)]/\H=[]/\i+k=O xs/\hasB xs n=(xs.drop i).any λx=>A1 x n) ?_ (k:=O xs) ⟨0,rfl,rfl,U,by simp [hasB]⟩;rintro k _ _ ⟨i,rfl,rfl,hk,hi⟩
 repeat' (first|refine gy ?_|refine ft (λht=>?_) λht=>?_|refine ⟨_,rfl,?_⟩|fail)
 .have h1:=F5 ‹J2 i _=W›
  rw [E3 V] at hi;simp [hi,ht,j5]
 .have h1:=F5 ‹J2 i _=W›
  rw [E3 V] at hi;exact kk ⟨i+1,rfl,rfl,V,by simp [hi,ht]⟩
 .have h1:=G7 ht
  rw [o7 V] at hi;simp [hi,j5]
def gK {α:Type}(eq:α->α->Bool):List α->List α->Bool
 |[],[]=>W
 |a::l,c::m=>eq a c&&gK eq l m
 |_,_=>F
theorem xS {α:Type}{eq:α->α->Bool}:∀{l m:List α},O l≠O m->gK eq l m=F
 |[],[],h=>absurd rfl h
 |[],_::_,_=>rfl
 |_::_,[],_=>rfl
 |a::l,c::m,h=>by simp only [gK,xS (l:=l) (m:=m) (by simpa using h),Bool.and_false]
def bP0 (xs ys:List Int)(hx:O xs<=100000):Pf A 201 [.d (ints xs),.d (ints ys)] (.d (.bool (gK A1 xs ys))):=by
 refine Pf.go 2 ?_
 repeat' (first|refine gy ?_|refine ft (λht=>?_) λht=>?_|refine ⟨_,rfl,?_⟩|fail)
 .have h1:O xs≠O ys:=by simp [p7] at ht;omega
  simp [xS h1,j5]
 have hl:O xs=O ys:=by simp [p7] at ht;omega
 refine Ex.R8 (λk T H=>∃(i:Nat),T=[.d (ints xs),.d (ints ys),.any,.d (Z i)]/\H=[]/\i+k=O xs/\gK A1 xs ys=gK A1 (xs.drop i) (ys.drop i)) ?_ (k:=O xs) ⟨0,rfl,rfl,U,U⟩;rintro k _ _ ⟨i,rfl,rfl,hk,hi⟩
 repeat' (first|refine gy ?_|refine ft (λht=>?_) λht=>?_|refine ⟨_,rfl,?_⟩|fail)
 .have h1:=F5 ‹J2 i _=W›
  rw [E3 V,E3 (l:=ys) V] at hi;simp only [o8] at ht;simp [hi,gK,ht,j5]
 .have h1:=F5 ‹J2 i _=W›
  rw [E3 V,E3 (l:=ys) V] at hi;simp only [D5] at ht;exact kk ⟨i+1,rfl,rfl,V,by simp [hi,gK,ht]⟩
 .have h1:=G7 ht
  rw [o7 V,o7 V] at hi;simp [hi,gK,j5]
def bf1 (xs ys:List Int)(hx:O xs<=100000):Pf A 218 [.d (ints xs),.d (ints ys)] (.d (.bool (gK A1 xs ys))):=by
 refine Pf.go 4 ?_
 repeat' (first|refine gy ?_|refine ft (λht=>?_) λht=>?_|refine ⟨_,rfl,?_⟩|fail)
 .have h1:O xs≠O ys:=by simp [p7] at ht;omega
  simp [xS h1,j5]
 have hl:O xs=O ys:=by simp [p7] at ht;omega
 refine Ex.R8 (λk T H=>∃(i:Nat),T=[.d (ints xs),.d (ints ys),.any,.any,.d (Z (O xs)),.d (Z i)]/\H=[]/\i+k=O xs/\gK A1 xs ys=gK A1 (xs.drop i) (ys.drop i)) ?_ (k:=O xs) ⟨0,rfl,rfl,U,U⟩;rintro k _ _ ⟨i,rfl,rfl,hk,hi⟩
 repeat' (first|refine gy ?_|refine ft (λht=>?_) λht=>?_|refine ⟨_,rfl,?_⟩|fail)
 .have h1:=F5 ‹J2 i _=W›
  rw [E3 V,E3 (l:=ys) V] at hi;simp only [o8] at ht;simp [hi,gK,ht,j5]
 .have h1:=F5 ‹J2 i _=W›
  rw [E3 V,E3 (l:=ys) V] at hi;simp only [D5] at ht;exact kk ⟨i+1,rfl,rfl,V,by simp [hi,gK,ht]⟩
 .have h1:=G7 ht
  rw [o7 V,o7 V] at hi;simp [hi,gK,j5]
def val (k n:Int)(s:M6):c7:= .agg [.d (Z k),.d (Z n),.d (.str s)]
def trm (t:bU):c7:= .agg (t.enc.map .d)
set_option maxHeartbeats 2000000 in
def bh3 (k n:Int)(s:M6):Pf A 228 [val k n s] (.d (.bool (jD k n s))):=by
 refine Pf.go 3 ?_
 repeat' (first|refine gy ?_|refine fq (λhw=>?_) λhw=>?_|refine ⟨_,rfl,?_⟩|fail)
 all_goals first|(simp [*,j5,jD];done)|(simp_all [j5,jD];done)|(simp_all [j5,jD,A5,A7,p7,I5];done)|(simp_all [j5,jD,A5,A7,p7,I5]<;>omega)
set_option maxHeartbeats 2000000 in
def bh4 (k n:Int)(s:M6):Pf A 303 [val k n s] (.d (.bool (jD k n s))):=by
 refine Pf.go 3 ?_
 repeat' (first|refine gy ?_|refine fq (λhw=>?_) λhw=>?_|refine ⟨_,rfl,?_⟩|fail)
 all_goals first|(simp [*,j5,jD];done)|(simp_all [j5,jD];done)|(simp_all [j5,jD,A5,A7,p7,I5];done)|(simp_all [j5,jD,A5,A7,p7,I5]<;>omega)
set_option maxHeartbeats 2000000 in
def aB5 (t:bU):Pf A 272 [trm t] (.d (.bool (gu t))):=by
 refine Pf.go 3 ?_
 repeat' (first|refine cl (bh3 _ _ _) ?_|refine gy ?_|refine fq (λhw=>?_) λhw=>?_|refine ⟨_,rfl,?_⟩|fail)
 all_goals first|(simp [*,j5,gu,zeroV];done)|(simp_all [j5,gu,zeroV];done)|(simp_all [j5,gu,zeroV,A5,A7,p7,I5];done)|(simp_all [j5,gu,zeroV,A5,A7,p7,I5]<;>omega)
set_option maxHeartbeats 2000000 in
def YP (op:Int):Pf A 141 [.d (Z op)] (.d (Z (pY op))):=by
 refine Pf.go 4 ?_
 repeat' (first|refine gy ?_|refine fq (λhw=>?_) λhw=>?_|refine ⟨_,rfl,?_⟩|fail)
 all_goals first|(simp [*,j5,pY,Z];done)|(simp_all [j5,pY,Z];done)|(simp_all [j5,pY,Z,A5,A7,p7,I5];done)|(simp_all [j5,pY,Z,A5,A7,p7,I5]<;>omega)
set_option maxHeartbeats 8000000 in
def YS (op:Int):Pf A 290 [.d (Z op)] (.d (Z (pY op))):=by
 refine Pf.go 5 ?_
 repeat' (first|refine gy ?_|refine fq (λhw=>?_) λhw=>?_|refine ⟨_,rfl,?_⟩|fail)
 all_goals first|(simp [*,j5,pY,Z];done)|(simp_all [j5,pY,Z];done)|(simp_all [j5,pY,Z,A5,A7,p7,I5];done)|(simp_all [j5,pY,Z,A5,A7,p7,I5]<;>omega)
def oV (e:List bU):c7:= .d (B8 bU.enc e)
def uo (e:List bU)(d p:Nat):Int:=match O6 d (e.drop p) with
 |none=> -1
 |some (_,r)=>((O e - O r:Nat):Int)
def ID (e:List bU)(d k p:Nat):Int:=match gB (O6 d) k (e.drop p) with
 |none=> -1
 |some (_,r)=>((O e - O r:Nat):Int)
def UJ {e:List bU}{d p:Nat}(hp:p<O e)(h:CZ (Y e p)=W):uo e (d+1) p=ID e d (pY (Y e p).op).toNat (p+1):=by
 simp only [uo,ID];rw [E3 hp,O6,h,if_pos rfl];cases gB (O6 d) (pY (Y e p).op).toNat (e.drop (p+1)) with
 |none=>rfl
 |some x=>rfl
def FF {e:List bU}{d p:Nat}(h:O e<=p\/d=0\/CZ (Y e p)=F):uo e d p= -1:=by
 simp only [uo]
 rcases h with h|h|h
 .rw [o7 h]
  cases d<;>rfl
 .subst h;rfl
 .rcases x9 p (O e) with hp|hp
  .rw [E3 hp]
   cases d with
   |zero=>rfl
   |succ d=>rw [O6,h,if_neg U]
  .rw [o7 hp]
   cases d<;>rfl
def uq (e:List bU)(d p:Nat):(uo e d p= -1/\O6 d (e.drop p)=K)\/∃q:Nat,uo e d p=q/\q<=O e/\p<=q/\∃a,O6 d (e.drop p)=J (a,e.drop q):=by
 simp only [uo];cases h:O6 d (e.drop p) with
 |none=>exact Or.inl ⟨rfl,rfl⟩
 |some x =>
  obtain ⟨a,r⟩:=x;right;obtain ⟨h1,_,_⟩:=V1 d _ a r h;have h2:O r<=O e - p:=by
   have:=congrArg List.length h1;simp at this;omega
  have h4:p<=O e:=by
   rcases x9 (O e) p with hp|hp
   .rw [o7 V] at h1
    have:=congrArg List.length h1;have:=kN a;simp at *
    omega
   .exact hp
  refine ⟨O e - O r,rfl,V,V,a,?_⟩;have h3:e.drop (O e - O r)=r:=by
   have h5:e=(e.take p++a.flat)++r:=by rw [M3,<- h1,List.take_append_drop]
   conv=>lhs;rw [h5]
   rw [List.drop_append_of_le_length D,o7 D];rfl
  rw [h3]
def UI {e:List bU}{d k p:Nat}:ID e d (k+1) p=if J2 (uo e d p) 0 then -1 else ID e d k (uo e d p).toNat:=by
 rcases uq e d p with ⟨h1,h2⟩|⟨q,h1,_,_,a,h2⟩
 .rw [h1,if_pos (by simp [A5])]
  simp only [ID,gB,h2]
 .rw [h1,if_neg (by simp [A5])]
  simp only [ID,gB,h2,Int.toNat_natCast];cases gB (O6 d) k (e.drop q) with
  |none=>rfl
  |some x=>rfl
set_option maxHeartbeats 2000000 in
def aB4 (e:List bU)(he:O e<=1000):∀d p:Nat,d<=100->p<=2000->Pf A 229 [oV e,.d (Z p),.d (Z d)] (.d (Z (uo e d p))):=by
 intro d
 induction d with
 |zero =>
  intro p _ hp;refine Pf.run [oV e,.d (Z p),.d (Z (0:Nat)),.any,.any,.any] rfl rfl rfl rfl ?_;refine gr ?_;refine tc (W) (And.intro YP aB5) (λh1=>?_) (λh1=>?_)
  .refine gr ?_
   exact ⟨_,rfl,by rw [FF (Or.inr (Or.inl rfl))];rfl⟩
  .cases h1
 |succ d ih =>
  intro p hd hp;refine Pf.run [oV e,.d (Z p),.d (Z (d+1:Nat)),.any,.any,.any] rfl rfl rfl rfl ?_;refine gr ?_;refine tB (bC (O e) p|| !CZ (Y e p)) ?_ (λh1=>?_) (λh1=>?_)
  .repeat' (first|refine cl (YP _) ?_|refine cl (aB5 _) ?_|refine gx ?_|refine fq (λhw=>?_) λhw=>?_|refine ⟨rfl,rfl,_,rfl,?_⟩|refine ⟨rfl,rfl⟩|fail)
   all_goals first|(simp [*,j5,CZ];done)|(simp_all [j5,CZ];done)|(simp_all [j5,CZ,A5,A7,p7,I5];done)|(simp_all [j5,CZ,A5,A7,p7,I5]<;>omega)
  .refine gr ?_
   refine ⟨_,rfl,?_⟩;rw [FF]
   .rfl
   .simp only [Bool.or_eq_true,o8] at h1
    rcases h1 with h|h
    .have:=nD h;left;omega
    .exact Or.inr (Or.inr h)
  simp only [E5,D5] at h1;have h2:=vE h1.1;have h3:=rZ (Y e p).op;have h4:0<=pY (Y e p).op:=by
   have:=h1.2;simp only [CZ,c8,o8] at this;exact G7 this.1
  refine gc YP ?_;refine Ex.jH (λk T H=>∃(i q:Nat) (v:c7),T=[oV e,.d (Z q),.d (Z (d+1:Nat)),v,.d (Z (pY (Y e p).op)),.d (Z i)]/\H=[]/\(i:Int)+k=pY (Y e p).op/\q<=O e/\uo e (d+1) p=ID e d k q) ?_ (k:=(pY (Y e p).op).toNat) ⟨0,p+1,_,rfl,rfl,V,V,UJ V h1.2⟩;rintro k _ _ ⟨i,q,v,rfl,rfl,hk,hq,hi⟩;refine Ex.nT ?_;refine Ex.seq ?_;refine tl i (pY (Y e p).op) (λh6=>?_) (λh6=>?_)
  .obtain ⟨k,rfl⟩:∃k',k=k' +1:=⟨k - 1,V⟩
   refine gr ?_;refine cl (ih q V V) ?_ (ha:=by rw [show (d:Int)=((d+1:Nat):Int) - 1 by omega];rfl);rw [UI] at hi
   rcases uq e d q with ⟨e1,_⟩|⟨q',e1,e2,_,_,_⟩
   .rw [e1] at hi ⊢
    have e3:J2 (-1) 0=W:=by simp [A5]
    rw [e3,if_pos rfl] at hi;refine gr ?_;refine tb (W) (λh7=>?_) (λh7=>?_)
    .refine gr ?_
     exact ⟨_,rfl,by rw [hi];rfl⟩
    .cases h7
   .rw [e1] at hi ⊢
    have e3:J2 (q' :Int) 0=F:=by simp [A5]
    rw [e3,if_neg U] at hi;refine gr ?_;refine tb (F) (λh7=>?_) (λh7=>?_)
    .cases h7
    refine gr ?_;exact ⟨k,V,i+1,q',_,rfl,rfl,V,V,hi⟩
  .obtain rfl:k=0:=V
   refine gr ?_;refine ⟨_,rfl,?_⟩;have h8:ID e d 0 q=q:=by simp only [ID,gB,List.length_drop];omega
   rw [hi,h8];rfl
def iP (e:List bU):Bool:=bC 1 (O e)&&bC (O e) 64&&A1 (uo e 16 0) (O e)
def bf6 (e:List bU)(he:O e<=1000):Pf A 170 [oV e] (.d (.bool (iP e))):=by
 refine Pf.go 1 ?_
 repeat' (first|refine cl (aB4 e he 16 0 V V) ?_|refine gy ?_|refine fq (λhw=>?_) λhw=>?_|refine ⟨_,rfl,?_⟩|fail)
 all_goals first|(simp [*,j5,iP];done)|(simp_all [j5,iP];done)|(simp_all [j5,iP,A5,A7,p7,I5];done)|(simp_all [j5,iP,A5,A7,p7,I5]<;>omega)
def lB (e:List bU):iP e=(iQ e).isSome:=by
 unfold iP iQ;cases h:(bC 1 (O e)&&bC (O e) 64) with
 |false=>rfl
 |true =>
  simp only [if_true,Bool.true_and];simp only [c8] at h;have hl:=nD h.1;simp only [uo,List.drop_zero];cases h1:O6 16 e with
  |none =>
   simp only [Option.isSome_none,p7];simp
  |some x =>
   obtain ⟨a,r⟩:=x;obtain ⟨h2,_,_⟩:=V1 16 e a r h1;have h3:O a.flat+O r=O e:=by rw [h2];simp
   have h4:=kN a;cases r with
   |nil=>simp [p7]
   |cons t r=>simp [p7] at *;omega
def aP9 (l:List cq):c7:= .d (B8 (λx=>[B8 bU.enc x]) (l.map cq.flat))
def OV {e:List bU}{p:Nat}{a:cq}{l:List cq}(h:e.drop p=O9 (a::l)):e.drop (p+O a.flat)=O9 l/\(e.take (p+O a.flat)).drop p=a.flat:=by
 constructor
 .rw [<- List.drop_drop,h,O9,List.drop_left]
 .rw [List.drop_take,h,Nat.add_sub_cancel_left,O9,List.take_left]
set_option maxHeartbeats 2000000 in
def bg4 (t:bU)(l:List cq)(he:O (t::O9 l)<=1000)(hw:wfL l)(hd:oy l<=16):Pf A 230 [oV (t::O9 l)] (aP9 l):=by
 refine Pf.gr 4 ?_;refine Ex.jH (λk T H=>∃(p:Nat) (l1 l2:List cq) (v w:c7),T=[oV (t::O9 l),v,L1 1 (λx=>[B8 bU.enc x]) (l1.map cq.flat),.d (Z p),w]/\H=[]/\k=O l2/\l=l1++l2/\p<=O (t::O9 l)/\(t::O9 l).drop p=O9 l2/\wfL l2/\oy l2<=16) ?_ (k:=O l) ⟨1,[],l,_,_,rfl,rfl,rfl,rfl,U,rfl,hw,hd⟩;rintro k _ _ ⟨p,l1,l2,v,w,rfl,rfl,hk,hl,hp,hp2,XX,hd2⟩;have hlen:=xA l;have hl1:O l1<=1000:=by
  have:=congrArg List.length hl;simp at this he;omega
 have AF:O (O9 l2)+p=O (t::O9 l):=by rw [<- hp2];simp at hp ⊢;omega
 refine Ex.nT ?_;refine Ex.seq ?_;refine tb (J2 p (O (t::O9 l))) (λh1=>?_) (λh1=>?_)
 .have h2:=F5 h1
  cases l2 with
  |nil=>simp [O9] at AF h2;omega
  |cons a l2 =>
  have h3:=OV hp2;have h4:uo (t::O9 l) 16 p=((p+O a.flat:Nat):Int):=by
   simp only [oy] at hd2;simp only [uo,hp2,O9];rw [aq a 16 (O9 l2) XX.1 V];simp only [O9,s9] at AF;simp only;omega
  have h5:=aB4 (t::O9 l) he 16 p V V;rw [h4] at h5;simp only [O9,s9] at AF;refine gc h5 ?_;refine ⟨O l2,by simp at hk;omega,p+O a.flat,l1++[a],l2,.any,.d (Z (p+O a.flat:Nat)),by rw [h3.2];simp [L1],rfl,rfl,by simp [hl],V,h3.1,XX.2,by simp only [oy] at hd2;omega⟩
 .have h2:=G7 h1
  cases l2 with
  |cons a l2 =>
   have:=kN a;simp only [O9,s9] at AF;omega
  |nil =>
  refine gr ?_;refine ⟨_,rfl,?_⟩;simp at hl;subst hl;rfl
def LP (op:Int)(k:Nat):Prop:=(op=3\/op=9\/op=13\/op=16)/\k=1\/op=18/\k=3\/4<=op/\op<=17/\op≠9/\op≠13/\op≠16/\k=2
def YH {t:bU}{k:Nat}(h:CZ t=W)(hk:(pY t.op).toNat=k)(h1:A1 t.op 1=F)(h2:A1 t.op 2=F):LP t.op k:=by
 simp only [CZ,c8,o8] at h;have h3:=G7 h.1;simp only [pY,h1,h2,Bool.or_self,e8,if_false,Bool.or_eq_true,c8] at h3 hk;unfold LP;split at h3
 next h4=>
  rw [if_pos h4] at hk;simp [p7] at h4 hk;left;omega
 next h4=>
  rw [if_neg h4] at hk;simp [p7] at h4 h1 h2;split at h3
  next h5=>
   rw [if_pos h5] at hk;simp [p7] at h5 hk;right;left;omega
  next h5=>
   rw [if_neg h5] at hk;simp [p7] at h5;split at h3
   next h6=>
    rw [if_pos h6] at hk;simp [A7] at h6 hk;right;right;omega
   .omega
set_option maxHeartbeats 16000000 in
def bg5 (op:Int)(t:List Int)(h:LP op (O t)):Pf A 231 [.d (Z op),.d (ints t)] (.d (Z (jC op t))):=by
 unfold LP at h;refine Pf.go 7 ?_
 repeat' (first|refine gy ?_|refine fq (λhw=>?_) λhw=>?_|refine ⟨_,rfl,?_⟩|fail)
 all_goals first|(simp [*,j5,jC,Z];done)|(simp_all [j5,jC,Z];done)|(simp_all [j5,jC,Z,A5,A7,p7,I5];done)|(simp_all [j5,jC,Z,A5,A7,p7,I5]<;>omega)
def aq4 {α:Type} [Inhabited α] (l1:List α)(a:α)(l2:List α):Y (l1++a::l2) (O l1)=a:=by
 rw [H6 U];simp
theorem Cq {a:cq}:∀{l:List cq},a∈l->O a.flat<=O (O9 l)
 |b::l,h=>by
  simp only [O9,s9]
  rcases C4.1 h with rfl|h
  .omega
  .have:=Cq h;omega
theorem Qp {a:cq}:∀{l:List cq},wfL l->a∈l->a.wf
 |b::l,hw,h=>by
  rcases C4.1 h with rfl|h
  .exact hw.1
  .exact Qp hw.2 h
theorem QO {a:cq}:∀{l:List cq},a∈l->a.dep<=oy l
 |b::l,h=>by
  simp only [oy]
  rcases C4.1 h with rfl|h
  .omega
  .have:=QO h;omega
set_option maxHeartbeats 4000000 in
def bf7 (ty:List Int):∀(n:Nat) (a:cq),O a.flat<=n->n<=1000->a.wf->a.dep<=16->Pf A 171 [oV a.flat,.d (ints ty)] (.tuple [.d (Z (a.typ ty).1),.d (Z (a.typ ty).2)]):=by
 intro n
 induction n with
 |zero=>intro a h;have:=kN a;omega
 |succ n ih =>
 rintro ⟨t,l⟩ hn hn2 hw hd;simp only [cq.flat] at hn ⊢;simp only [cq.dep] at hd;have hle:O (t::O9 l)<=1000:=V
 have hpos:0<O (t::O9 l):=U
 have h0:Y (t::O9 l) 0=t:=V8 _ _;obtain ⟨hok,har,hwl⟩:=hw;have hll:=xA l;have hl3:O l<=3:=by have:=rZ t.op;omega
 refine Pf.run [oV (t::O9 l),.d (ints ty),.any,.any,.any,.any,.any,.any,.any,.any,.any] rfl rfl rfl rfl ?_;refine gr ?_;rw [h0];have am7:A1 t.op 2=W->A1 t.op 1=F->0<=t.col:=λh h' =>by
  simp only [CZ,gu,h,h',if_true,e8,if_false,c8] at hok;exact nD hok.2.2
 have hl0:(A1 t.op 1||A1 t.op 2)=W->l=[]:=λh=>by
  have:pY t.op=0:=by unfold pY;rw [h,if_pos rfl]
  rw [this] at har;cases l with
  |nil=>rfl
  |cons a l=>simp at har
 refine tb (A1 t.op 1) (λh1=>?_) (λh1=>?_)
 .refine gr ?_
  refine ⟨_,rfl,?_⟩;rw [hl0 (by simp [h1])];simp [j5,cq.typ,jY,Fo,h1,p7,Z,c7.F4,V8]
 refine gr ?_;refine tb (A1 t.op 2) (λh2=>?_) (λh2=>?_)
 .have hc:=am7 h2 h1
  have hll:=hl0 (by simp [h2]);refine gr ?_;refine tB (bC (O ty) t.col) ?_ (λh3=>?_) (λh3=>?_)
  .repeat' (first|refine gx ?_|refine fq (λhw=>?_) λhw=>?_|refine ⟨rfl,rfl,_,rfl,?_⟩|refine ⟨rfl,rfl⟩|fail)
   all_goals first|(simp [*,j5,V8];done)|(simp_all [j5,V8];done)|(simp_all [j5,V8,A5,A7,p7,I5];done)|(simp_all [j5,V8,A5,A7,p7,I5]<;>omega)
  .refine gr ?_
   refine ⟨_,rfl,?_⟩;rw [hll];simp [j5,cq.typ,jY,Fo,h1,h2,h3,p7,Z,c7.F4]
  .have h4:=vE h3
   refine gr ?_;rw [h0];refine gr ?_;refine ⟨_,rfl,?_⟩;rw [hll];simp [j5,cq.typ,jY,Fo,h1,h2,h3,p7,Z,c7.F4]
 have hfit:=YH hok har h1 h2;refine gc (bg4 t l hle hwl V) ?_;refine Ex.jH (λk T H=>∃(i:Nat) (l1 l2:List cq) (ts:List Int) (v2 v3 v7 v8 v9 v10:c7),T=[oV (t::O9 l),.d (ints ty),v2,v3,L1 1 (λn=>[Z n]) ts,aP9 l,.d (Z i),v7,v8,v9,v10]/\H=[]/\i=O l1/\k=O l2/\l=l1++l2/\O ts=O l1/\(jY ty l).1=ts++(jY ty l2).1/\(jY ty l).2=(jY ty l2).2) ?_ (k:=O l) ⟨0,[],l,[],_,_,_,_,_,_,rfl,rfl,rfl,rfl,rfl,rfl,rfl,rfl⟩;rintro k _ _ ⟨i,l1,l2,ts,v2,v3,v7,v8,v9,v10,rfl,rfl,EZ,hk,hl,hts,e1,e2⟩;have hlen:O l=O l1+O l2:=by rw [hl];simp
 refine Ex.nT ?_;refine Ex.seq ?_;unfold aP9;refine tl i (O l) (λh4=>?_) (λh4=>?_)
 .cases l2 with
  |nil=>simp at hlen;omega
  |cons a l2 =>
  have hm:Y (l.map cq.flat) i=a.flat:=by
   have:=aq4 (l1.map cq.flat) a.flat (l2.map cq.flat);rw [hl,EZ];simpa using this
  have ha:a∈l:=by rw [hl];simp
  have hp:=ih a (by have:=Cq ha;simp at hn;omega) V (Qp hwl ha) (by have:=QO ha;omega);have hlm:i<O (l.map cq.flat):=D
  refine gr ?_;rw [hm];simp only [jY] at e1 e2;refine gc hp ?_;refine tb (!A1 (a.typ ty).2 0) (λh5=>?_) (λh5=>?_)
  .simp only [o8] at h5
   simp only [h5,e8,if_false] at e1 e2;refine gr ?_;refine ⟨_,rfl,?_⟩;simp [j5,cq.typ,e2,h5,c7.F4,Z]
  .simp only [D5] at h5
   simp only [h5,if_true] at e1 e2;refine gr ?_;exact ⟨O l2,by simp at hk;omega,i+1,l1++[a],l2,ts++[(a.typ ty).1],_,_,_,_,_,_,rfl,rfl,by simp [EZ],rfl,by simp [hl],by simp [hts],by simp [e1],e2⟩
 .cases l2 with
  |cons a l2=>simp at hlen;omega
  |nil =>
  simp only [jY,List.append_nil] at e1 e2;refine gr ?_;rw [h0];have aZ3:LP t.op (O ts):=by rw [hts];simpa [hl] using hfit
  refine gc (bg5 t.op ts aZ3) ?_;refine tb (A1 (jC t.op ts) 0) (λh5=>?_) (λh5=>?_)
  .refine gr ?_
   refine ⟨_,rfl,?_⟩;simp [j5,cq.typ,e1,e2,h1,h2,h5,Fo,c7.F4,Z,p7]
  .refine gr ?_
   refine ⟨_,rfl,?_⟩;simp [j5,cq.typ,e1,e2,h1,h2,h5,Fo,c7.F4,Z,p7]
def pair (p:Int×Int):c7:= .tuple [.d (Z p.1),.d (Z p.2)]
set_option maxHeartbeats 2000000 in
def RP (e:List bU)(ty:List Int)(he:O e<=1000)(ht:O ty<=100000):Pf A 114 [oV e,.d (ints ty)] (pair (O1 e ty)):=by
 refine Pf.gr 3 ?_;refine tc (!iP e) (bf6 e he) (λh1=>?_) (λh1=>?_)
 .refine gr ?_
  refine ⟨_,rfl,?_⟩;rw [lB] at h1;cases h2:iQ e with
  |none=>simp [O1,h2,j5,pair,Z,c7.F4]
  |some a=>simp [h2] at h1
 rw [lB] at h1;cases h2:iQ e with
 |none=>simp [h2] at h1
 |some a =>
 have h3:e=a.flat/\a.wf/\a.dep<=16:=by
  unfold iQ at h2;split at h2
  .split at h2
   next b h4=>
    obtain ⟨e1,e2,e3⟩:=V1 16 e b [] h4;cases h2;exact ⟨by simpa using e1,e2,e3⟩
   .cases h2
  .cases h2
 refine gr ?_;refine Ex.R8 (λk T H=>∃(i:Nat),T=[oV e,.d (ints ty),.any,.any,.d (Z i)]/\H=[]/\i+k=O ty/\dQ ty=dQ (ty.drop i)) ?_ (k:=O ty) ⟨0,rfl,rfl,U,U⟩;rintro k _ _ ⟨i,rfl,rfl,hk,hi⟩;refine Ex.seq ?_;refine tl i (O ty) (λh5=>?_) (λh5=>?_)
 .rw [E3 V] at hi
  refine gr ?_;refine tb (!A1 (Y ty i) 1&& !A1 (Y ty i) 2) (λh6=>?_) (λh6=>?_)
  .refine gr ?_
   refine ⟨_,rfl,?_⟩;have h7:dQ ty=F:=by
    rw [hi];simp only [c8,o8] at h6;simp [dQ,h6]
   simp [O1,h2,h7,j5,pair,Z,c7.F4]
  .refine gr ?_
   refine kk ⟨i+1,rfl,rfl,V,?_⟩;rw [hi];simp only [dQ,List.all_cons];cases h7:A1 (Y ty i) 1<;>cases h8:A1 (Y ty i) 2<;>simp_all
 .rw [o7 V] at hi
  have h6:=bf7 ty (O e) a (by rw [h3.1];omega) he h3.2.1 h3.2.2;rw [<- h3.1] at h6;refine gc h6 ?_;refine ⟨_,rfl,?_⟩;have hg:dQ ty=W:=by rw [hi];rfl
  simp [O1,h2,hg,j5,pair,c7.F4]
def encS (s:M6):List B3.Data:=[.str s]
set_option maxHeartbeats 4000000 in
def bh7 (c:s6)(hf:c.lH):Pf A 142 [cat c] (.d (B8 encS c.names)):=by
 obtain ⟨f0,f1,f2,f3,f4,f5,f6,f7⟩:=hf;refine Pf.gr 11 ?_;refine Ex.R8 (λk T H=>∃(i:Nat) (acc:List M6),T=[.any,.ptr 0 0,.any,L1 1 encS acc,.d (Z i),.any,.any,.any,.any,.any,.any,.any]/\H=[.cells (c.enc.map .d)]/\i+k=O c.k9/\acc=([]:List M6)++(c.k9.take i).map jt.name) ?_ (k:=O c.k9) ⟨0,([]:List M6),rfl,rfl,U,U⟩;rintro k _ _ ⟨i,acc,rfl,rfl,hk,hacc⟩;have hl:O acc=0+i:=by rw [hacc];simp;omega
 repeat' (first|refine gy ?_|refine ft (λht=>?_) λht=>?_|refine ⟨_,rfl,?_⟩|fail)
 .have h1:=F5 ht
  refine kk ⟨i+1,acc++[(Y c.k9 i).name],rfl,rfl,V,?_⟩;rw [N7 V,hacc];simp
 have h1:=G7 ht;rw [y6 V] at hacc;clear ht h1 hk hl;subst hacc;refine Ex.R8 (λk T H=>∃(i:Nat) (acc:List M6),T=[.any,.ptr 0 0,.any,L1 1 encS acc,.any,.d (Z i),.any,.any,.any,.any,.any,.any]/\H=[.cells (c.enc.map .d)]/\i+k=O c.views/\acc=c.k9.map jt.name++(c.views.take i).map Vw.name) ?_ (k:=O c.views) ⟨0,c.k9.map jt.name,rfl,rfl,U,U⟩;rintro k _ _ ⟨i,acc,rfl,rfl,hk,hacc⟩;have hl:O acc=0+O c.k9+i:=by rw [hacc];simp;omega
 repeat' (first|refine gy ?_|refine ft (λht=>?_) λht=>?_|refine ⟨_,rfl,?_⟩|fail)
 .have h1:=F5 ht
  refine kk ⟨i+1,acc++[(Y c.views i).name],rfl,rfl,V,?_⟩;rw [N7 V,hacc];simp
 have h1:=G7 ht;rw [y6 V] at hacc;clear ht h1 hk hl;subst hacc;refine Ex.R8 (λk T H=>∃(i:Nat) (acc:List M6),T=[.any,.ptr 0 0,.any,L1 1 encS acc,.any,.any,.d (Z i),.any,.any,.any,.any,.any]/\H=[.cells (c.enc.map .d)]/\i+k=O c.idxs/\acc=c.k9.map jt.name++c.views.map Vw.name++(c.idxs.take i).map pe.name) ?_ (k:=O c.idxs) ⟨0,c.k9.map jt.name++c.views.map Vw.name,rfl,rfl,U,U⟩;rintro k _ _ ⟨i,acc,rfl,rfl,hk,hacc⟩;have hl:O acc=0+O c.k9+O c.views+i:=by rw [hacc];simp;omega
 repeat' (first|refine gy ?_|refine ft (λht=>?_) λht=>?_|refine ⟨_,rfl,?_⟩|fail)
 .have h1:=F5 ht
  refine kk ⟨i+1,acc++[(Y c.idxs i).name],rfl,rfl,V,?_⟩;rw [N7 V,hacc];simp
 have h1:=G7 ht;rw [y6 V] at hacc;clear ht h1 hk hl;subst hacc;refine Ex.R8 (λk T H=>∃(i:Nat) (acc:List M6),T=[.any,.ptr 0 0,.any,L1 1 encS acc,.any,.any,.any,.d (Z i),.any,.any,.any,.any]/\H=[.cells (c.enc.map .d)]/\i+k=O c.M7/\acc=c.k9.map jt.name++c.views.map Vw.name++c.idxs.map pe.name++(c.M7.take i).map oh.name) ?_ (k:=O c.M7) ⟨0,c.k9.map jt.name++c.views.map Vw.name++c.idxs.map pe.name,rfl,rfl,U,U⟩;rintro k _ _ ⟨i,acc,rfl,rfl,hk,hacc⟩;have hl:O acc=0+O c.k9+O c.views+O c.idxs+i:=by rw [hacc];simp;omega
 repeat' (first|refine gy ?_|refine ft (λht=>?_) λht=>?_|refine ⟨_,rfl,?_⟩|fail)
 .have h1:=F5 ht
  refine kk ⟨i+1,acc++[(Y c.M7 i).name],rfl,rfl,V,?_⟩;rw [N7 V,hacc];simp
 have h1:=G7 ht;rw [y6 V] at hacc;clear ht h1 hk hl;subst hacc;refine Ex.R8 (λk T H=>∃(i:Nat) (acc:List M6),T=[.any,.ptr 0 0,.any,L1 1 encS acc,.any,.any,.any,.any,.d (Z i),.any,.any,.any]/\H=[.cells (c.enc.map .d)]/\i+k=O c.O0/\acc=c.k9.map jt.name++c.views.map Vw.name++c.idxs.map pe.name++c.M7.map oh.name++(c.O0.take i).map rY.name) ?_ (k:=O c.O0) ⟨0,c.k9.map jt.name++c.views.map Vw.name++c.idxs.map pe.name++c.M7.map oh.name,rfl,rfl,U,U⟩;rintro k _ _ ⟨i,acc,rfl,rfl,hk,hacc⟩;have hl:O acc=0+O c.k9+O c.views+O c.idxs+O c.M7+i:=by rw [hacc];simp;omega
 repeat' (first|refine gy ?_|refine ft (λht=>?_) λht=>?_|refine ⟨_,rfl,?_⟩|fail)
 .have h1:=F5 ht
  refine kk ⟨i+1,acc++[(Y c.O0 i).name],rfl,rfl,V,?_⟩;rw [N7 V,hacc];simp
 have h1:=G7 ht;rw [y6 V] at hacc;clear ht h1 hk hl;subst hacc;refine Ex.R8 (λk T H=>∃(i:Nat) (acc:List M6),T=[.any,.ptr 0 0,.any,L1 1 encS acc,.any,.any,.any,.any,.any,.d (Z i),.any,.any]/\H=[.cells (c.enc.map .d)]/\i+k=O c.R1/\acc=c.k9.map jt.name++c.views.map Vw.name++c.idxs.map pe.name++c.M7.map oh.name++c.O0.map rY.name++(c.R1.take i).map qh.name) ?_ (k:=O c.R1) ⟨0,c.k9.map jt.name++c.views.map Vw.name++c.idxs.map pe.name++c.M7.map oh.name++c.O0.map rY.name,rfl,rfl,U,U⟩;rintro k _ _ ⟨i,acc,rfl,rfl,hk,hacc⟩;have hl:O acc=0+O c.k9+O c.views+O c.idxs+O c.M7+O c.O0+i:=by rw [hacc];simp;omega
 repeat' (first|refine gy ?_|refine ft (λht=>?_) λht=>?_|refine ⟨_,rfl,?_⟩|fail)
 .have h1:=F5 ht
  refine kk ⟨i+1,acc++[(Y c.R1 i).name],rfl,rfl,V,?_⟩;rw [N7 V,hacc];simp
 have h1:=G7 ht;rw [y6 V] at hacc;clear ht h1 hk hl;subst hacc;refine Ex.R8 (λk T H=>∃(i:Nat) (acc:List M6),T=[.any,.ptr 0 0,.any,L1 1 encS acc,.any,.any,.any,.any,.any,.any,.d (Z i),.any]/\H=[.cells (c.enc.map .d)]/\i+k=O c.S8/\acc=c.k9.map jt.name++c.views.map Vw.name++c.idxs.map pe.name++c.M7.map oh.name++c.O0.map rY.name++c.R1.map qh.name++(c.S8.take i).map uP.name) ?_ (k:=O c.S8) ⟨0,c.k9.map jt.name++c.views.map Vw.name++c.idxs.map pe.name++c.M7.map oh.name++c.O0.map rY.name++c.R1.map qh.name,rfl,rfl,U,U⟩;rintro k _ _ ⟨i,acc,rfl,rfl,hk,hacc⟩;have hl:O acc=0+O c.k9+O c.views+O c.idxs+O c.M7+O c.O0+O c.R1+i:=by rw [hacc];simp;omega
 repeat' (first|refine gy ?_|refine ft (λht=>?_) λht=>?_|refine ⟨_,rfl,?_⟩|fail)
 .have h1:=F5 ht
  refine kk ⟨i+1,acc++[(Y c.S8 i).name],rfl,rfl,V,?_⟩;rw [N7 V,hacc];simp
 have h1:=G7 ht;rw [y6 V] at hacc;clear ht h1 hk hl;subst hacc;refine Ex.R8 (λk T H=>∃(i:Nat) (acc:List M6),T=[.any,.ptr 0 0,.any,L1 1 encS acc,.any,.any,.any,.any,.any,.any,.any,.d (Z i)]/\H=[.cells (c.enc.map .d)]/\i+k=O c.W6/\acc=c.k9.map jt.name++c.views.map Vw.name++c.idxs.map pe.name++c.M7.map oh.name++c.O0.map rY.name++c.R1.map qh.name++c.S8.map uP.name++(c.W6.take i).map uO.name) ?_ (k:=O c.W6) ⟨0,c.k9.map jt.name++c.views.map Vw.name++c.idxs.map pe.name++c.M7.map oh.name++c.O0.map rY.name++c.R1.map qh.name++c.S8.map uP.name,rfl,rfl,U,U⟩;rintro k _ _ ⟨i,acc,rfl,rfl,hk,hacc⟩;have hl:O acc=0+O c.k9+O c.views+O c.idxs+O c.M7+O c.O0+O c.R1+O c.S8+i:=by rw [hacc];simp;omega
 repeat' (first|refine gy ?_|refine ft (λht=>?_) λht=>?_|refine ⟨_,rfl,?_⟩|fail)
 .have h1:=F5 ht
  refine kk ⟨i+1,acc++[(Y c.W6 i).name],rfl,rfl,V,?_⟩;rw [N7 V,hacc];simp
 have h1:=G7 ht;rw [y6 V] at hacc;clear ht h1 hk hl;subst hacc;simp [j5,B8,L1,s6.names]
def s6.sn (c:s6):List M6:=c.k9.map jt.name++c.views.map Vw.name
def s6.ns (c:s6):Nat:=O c.k9+O c.views
def K6 (name:M6):List M6->Nat->Int
 |[],_=> -1
 |x::r,i=>if Q2 x name then i else K6 name r (i+1)
def K7 (c:s6)(name:M6)(n:Nat):Int:=K6 name ((s6.sn c).take n) 0
theorem aQ (c:s6):O (s6.sn c)=s6.ns c:=by simp [s6.sn,s6.ns]
def CV (c:s6){i:Nat}(h:i<s6.ns c):Y c.names i=Y (s6.sn c) i:=by
 have h1:c.names=s6.sn c++(c.idxs.map pe.name++c.M7.map oh.name++c.O0.map rY.name++c.R1.map qh.name++c.S8.map uP.name++c.W6.map uO.name):=by simp [s6.names,s6.sn]
 have h2:i<O (s6.sn c):=by grind [aQ]
 grind [H6,List.getElem_append_left]
theorem Y3 (c:s6):s6.ns c<=O c.names:=by simp [s6.names,s6.ns]
def Jg (c:s6)(name:M6)(n:Nat)(hf:c.lH)(hn:n<=100000):Pf A 112 [cat c,.d (.str name),.d (Z n)] (.d (Z (K7 c name n))):=by
 have hl:=Y3 c;have hc:s6.ns c<=2000:=by obtain ⟨f0,f1,_⟩:=hf;grind [s6.ns]
 have hs:=aQ c;have uw :O c.k9+O c.views<=2000:=hc;refine Pf.go 4 ?_;refine gc (bh7 c hf) ?_;refine Ex.Ga (λk T H=>∃(i:Nat) (v w:c7),T=[v,.d (.str name),.d (Z n),.ptr 0 0,w,.d (B8 encS c.names),.d (Z i)]/\H=[.cells (c.enc.map .d)]/\i+k=s6.ns c/\i<=n/\K7 c name n=K6 name (((s6.sn c).take n).drop i) i) M ?_ (k:=s6.ns c) ⟨0,_,_,rfl,rfl,U,V,by simp [K7]⟩;rintro k _ _ ⟨i,v,w,rfl,rfl,hk,hin,hi⟩;refine Ex.nT ?_;refine Ex.seq ?_;refine tB (J2 i n&&J2 i (s6.ns c)) ?_ (λh1=>?_) (λh1=>?_)
 .repeat' (first|refine gx ?_|refine fk (h1:=λhw=>?_) (h2:=λhw=>?_)|refine ⟨rfl,rfl,_,rfl,?_⟩|fail)
  all_goals grind [j5,s6.ns,A5,A7,p7,I5]
 .simp [c8] at h1
  have h2:=F5 h1.1;have h3:=F5 h1.2;have h4:((s6.sn c).take n).drop i=Y (s6.sn c) i::((s6.sn c).take n).drop (i+1):=by
   grind [E3,H6]
  rw [h4,<- CV c V] at hi
  repeat' (first|refine gx ?_|refine Ex.test (Rn.text ?_)|refine ⟨_,rfl,λht=>?_,λht=>?_⟩|refine ⟨_,rfl,?_⟩|fail)
  .grind [K6,j5,Z]
  .exact kk ⟨i+1,_,_,rfl,rfl,V,V,by grind [K6]⟩
 .repeat' (first|refine gx ?_|refine ⟨_,rfl,?_⟩|fail)
  grind [s6.sn,o7,A5,K6,j5,Z]
def gb (c:s6)(name:M6)(n:Nat):Int:=K7 c name (min n (O c.k9))
def YO (c:s6)(name:M6)(n:Nat)(hf:c.lH)(hn:n<=100000):Pf A 207 [cat c,.d (.str name),.d (Z n)] (.d (Z (gb c name n))):=by
 refine Pf.gr 2 ?_;have e:(if (O c.k9:Int)<(n:Int) then (O c.k9:Int) else (n:Int))=((min n (O c.k9):Nat):Int):=by split<;>omega
 refine cl (Jg c name (min n (O c.k9)) hf V) ?_ (ha:=by rw [Z,<- e];rfl);refine gr ?_;exact ⟨_,rfl,rfl⟩
def X1 (t:jt):Int->List Int->Bool
 |_,[]=>W
 |p,o::r=>J2 p o&&J2 o (O t.p9)&& !(Q2 (Y t.p9 o.toNat).space []&&Q2 (Y t.p9 o.toNat).refs [])&&X1 t o r
def W5 (t:jt):c7:= .agg (t.enc.map .d)
def bf5 (t:jt)(xs:List Int)(hx:O xs<=1000)(hc:O t.p9<=1000):Pf A 245 [W5 t,.d (ints xs)] (.d (.bool (X1 t (-1) xs))):=by
 refine Pf.gr 3 ?_;refine Ex.R8 (λk T H=>∃(i:Nat) (p:Int),T=[.any,.d (ints xs),.ptr 0 0,.any,.d (Z i)]/\H=[.cells (t.enc.map .d)]/\i+k=O xs/\p=(if i=0 then -1 else Y xs (i - 1))/\ -1<=p/\X1 t (-1) xs=X1 t p (xs.drop i)) ?_ (k:=O xs) ⟨0, -1,rfl,rfl,U,U,V,U⟩;rintro k _ _ ⟨i,p,rfl,rfl,hk,hp,hp1,hi⟩;refine Ex.seq ?_;refine tb (J2 i (O xs)) (λh1=>?_) (λh1=>?_)
 .have h2:=F5 h1
  rw [E3 V] at hi;have hq:(((i:Int) - 1).toNat)=i - 1:=V
  refine gr ?_;refine tB (!(s4 (Y xs i) 0 (O t.p9 - 1))||(J2 0 i&&bC (Y xs i) (Y xs (i - 1)))||(Q2 (Y t.p9 (Y xs i).toNat).space []&&Q2 (Y t.p9 (Y xs i).toNat).refs [])) ?_ (λh3=>?_) (λh3=>?_)
  .repeat' (first|refine cl (uG _ _ _) ?_|refine gx ?_|refine fk (h1:=λhw=>?_) (h2:=λhw=>?_)|refine ⟨rfl,rfl,_,rfl,?_⟩|fail)
   all_goals first|(simp [*,j5,hq];done)|(simp_all [j5,hq];done)
  .refine gr ?_
   refine ⟨_,rfl,?_⟩;have h5:(J2 p (Y xs i)&&J2 (Y xs i) (O t.p9)&& !(Q2 (Y t.p9 (Y xs i).toNat).space []&&Q2 (Y t.p9 (Y xs i).toNat).refs []))=F:=by
    rcases hS:(Q2 (Y t.p9 (Y xs i).toNat).space []&&Q2 (Y t.p9 (Y xs i).toNat).refs []) with _|_
    .simp [hS,s4,A5,A7] at h3 ⊢
     by_cases h0:i=0
     .simp [h0] at hp h3 ⊢;omega
     .simp [h0] at hp;omega
    .simp
   rw [hi,X1,h5];simp [j5]
  .refine gr ?_
   have h5:J2 p (Y xs i)=W/\J2 (Y xs i) (O t.p9)=W/\(Q2 (Y t.p9 (Y xs i).toNat).space []&&Q2 (Y t.p9 (Y xs i).toNat).refs [])=F:=by
    simp only [E5] at h3;refine ⟨?_,?_,h3.2⟩
    .simp [s4,A5,A7] at h3 ⊢
     by_cases h0:i=0
     .simp [h0] at hp h3 ⊢;omega
     .simp [h0] at hp;omega
    .simp [s4,A5,A7] at h3 ⊢
     omega
   refine kk ⟨i+1,Y xs i,rfl,rfl,V,U,?_,?_⟩
   .have:=F5 h5.1;omega
   .rw [hi,X1,h5.1,h5.2.1,h5.2.2]
    simp
 .refine gr ?_
  have h2:=G7 h1;rw [o7 V] at hi;exact ⟨_,rfl,by simp [hi,X1,j5]⟩
def aO (c:s6)(n i:Nat):Int :=
 if !M5 (Y (Y c.k9 n).p9 i).name||(!Q2 (Y (Y c.k9 n).p9 i).space []&& !M5 (Y (Y c.k9 n).p9 i).space) then 3
 else if ((Y c.k9 n).p9.take i).any λy=>Q2 y.name (Y (Y c.k9 n).p9 i).name then 4
 else if !Q2 (Y (Y c.k9 n).p9 i).refs []&&J2 (gb c (Y (Y c.k9 n).p9 i).refs n) 0 then 7
 else if (!A1 (Y (Y c.k9 n).p9 i).type 1&& !A1 (Y (Y c.k9 n).p9 i).type 2)||(bC 0 (gb c (Y (Y c.k9 n).p9 i).refs n)&& !Q2 (Y (Y c.k9 n).p9 i).refs []&& !A1 (Y (Y c.k9 (gb c (Y (Y c.k9 n).p9 i).refs n).toNat).p9 0).type (Y (Y c.k9 n).p9 i).type) then 5
 else if (!Q2 (Y (Y c.k9 n).p9 i).space []&& !Q2 (Y (Y c.k9 n).p9 i).refs [])|| !X1 (Y c.k9 n) (-1) (Y (Y c.k9 n).p9 i).L0|| !s4 (Y (Y c.k9 n).p9 i).jG 0 1||(A1 (O (Y (Y c.k9 n).p9 i).L0) 0&&(!A1 (Y (Y c.k9 n).p9 i).jG 0|| !A1 (Y (Y c.k9 n).p9 i).oA 0)) then 1
 else if !s4 (Y (Y c.k9 n).p9 i).oA 0 1048576||(!A1 (Y c.k9 n).cE 0&&J2 (Y c.k9 n).cE (Y (Y c.k9 n).p9 i).oA)||(A1 i 0&&J2 0 (O (Y (Y c.k9 n).p9 i).L0)&& !A1 (Y c.k9 n).erase 1) then 1
 else if (!Q2 (Y (Y c.k9 n).p9 i).refs []&&J2 0 (O (Y (Y c.k9 (gb c (Y (Y c.k9 n).p9 i).refs n).toNat).p9 0).L0))&& !hasB (Y (Y c.k9 n).p9 i).L0 i then 1
 else 0
theorem iH (name:M6):∀(l:List M6) (i:Nat),K6 name l i= -1\/((i:Int)<=K6 name l i/\K6 name l i<i+O l)
 |[],i=>Or.inl rfl
 |x::r,i=>by
  simp only [K6];split
  .simp;omega
  .rcases iH name r (i+1) with h|h
   .exact Or.inl h
   .simp;omega
def Qm (c:s6)(name:M6)(n:Nat):gb c name n= -1\/(0<=gb c name n/\gb c name n<n/\gb c name n<O c.k9):=by
 unfold gb K7
 rcases iH name ((s6.sn c).take (min n (O c.k9))) 0 with h|h
 .exact Or.inl h
 .simp at h
  omega
set_option maxHeartbeats 8000000 in
def bO8 (c:s6)(n i:Nat)(hf:c.lH)(hn:n<O c.k9)(hi:i<O (Y c.k9 n).p9)(hl:O (Y c.k9 n).p9<=1000)(ho:O (Y (Y c.k9 n).p9 i).L0<=1000)(hp:∀m,m<n->0<O (Y c.k9 m).p9):Pf A 199 [cat c,.d (Z n),.d (Z i)] (.d (Z (aO c n i))):=by
 have hn2:n<=1000:=by obtain ⟨f0,_⟩:=hf;omega
 have hb:gb c (Y (Y c.k9 n).p9 i).refs n= -1\/(0<=gb c (Y (Y c.k9 n).p9 i).refs n/\gb c (Y (Y c.k9 n).p9 i).refs n<n/\gb c (Y (Y c.k9 n).p9 i).refs n<O c.k9/\0<O (Y c.k9 (gb c (Y (Y c.k9 n).p9 i).refs n).toNat).p9):=by
  rcases Qm c (Y (Y c.k9 n).p9 i).refs n with h|h
  .exact Or.inl h
  .exact Or.inr ⟨h.1,h.2.1,h.2.2,hp _ V⟩
 refine Pf.gr 6 ?_;refine tc (!M5 (Y (Y c.k9 n).p9 i).name||(!Q2 (Y (Y c.k9 n).p9 i).space []&& !M5 (Y (Y c.k9 n).p9 i).space)) aN6 (λh1=>?_) (λh1=>?_)
 .refine gr ?_
  exact ⟨_,rfl,by simp only [j5,Z,aO,h1,e8,if_true,if_false]⟩
 refine gr ?_;refine Ex.R8 (λk T H=>∃(j:Nat),T=[.any,.d (Z n),.d (Z i),.ptr 0 0,.any,.ptr 1 0,.ptr 2 0,.d (Z j),.any]/\H=[.cells (c.enc.map .d),.cells ((Y c.k9 n).enc.map .d),.cells ((Y (Y c.k9 n).p9 i).enc.map .d)]/\j+k=i/\(((Y c.k9 n).p9.take i).any λy=>Q2 y.name (Y (Y c.k9 n).p9 i).name)=((((Y c.k9 n).p9.take i).drop j).any λy=>Q2 y.name (Y (Y c.k9 n).p9 i).name)) ?_ (k:=i) ⟨0,rfl,rfl,U,U⟩;rintro k _ _ ⟨j,rfl,rfl,hk,hj⟩;refine Ex.seq ?_;refine tb (J2 j i) (λh8=>?_) (λh8=>?_)
 .have h9:=F5 h8
  rw [mS V V] at hj
  repeat' (first|refine gy ?_|refine ft (λht=>?_) λht=>?_|refine ⟨_,rfl,?_⟩|fail)
  .have h2:(((Y c.k9 n).p9.take i).any λy=>Q2 y.name (Y (Y c.k9 n).p9 i).name)=W:=by rw [hj];simp [ht]
   simp only [j5,Z,aO,h1,h2,e8,if_true,if_false]
  .exact kk ⟨j+1,rfl,rfl,V,by rw [hj];simp [ht]⟩
 have h9:=G7 h8;rw [o7 D] at hj;have h2:(((Y c.k9 n).p9.take i).any λy=>Q2 y.name (Y (Y c.k9 n).p9 i).name)=F:=by rw [hj];rfl
 clear hj h8 hk;refine gc (YO c (Y (Y c.k9 n).p9 i).refs n hf V) ?_;refine tb (!Q2 (Y (Y c.k9 n).p9 i).refs []&&J2 (gb c (Y (Y c.k9 n).p9 i).refs n) 0) (λh3=>?_) (λh3=>?_)
 .refine gr ?_
  exact ⟨_,rfl,by simp only [j5,Z,aO,h1,h2,h3,e8,if_true,if_false]⟩
 have h3' :(!Q2 (Y (Y c.k9 n).p9 i).refs [])=W->0<=gb c (Y (Y c.k9 n).p9 i).refs n:=λh=>by
  simp only [h,Bool.true_and] at h3;exact G7 h3
 have h3q:(!Q2 (Y (Y c.k9 n).p9 i).refs [])=W->0<O (Y c.k9 (gb c (Y (Y c.k9 n).p9 i).refs n).toNat).p9:=λh=>by have:=h3' h;omega
 refine tb ((!A1 (Y (Y c.k9 n).p9 i).type 1&& !A1 (Y (Y c.k9 n).p9 i).type 2)||(bC 0 (gb c (Y (Y c.k9 n).p9 i).refs n)&& !Q2 (Y (Y c.k9 n).p9 i).refs []&& !A1 (Y (Y c.k9 (gb c (Y (Y c.k9 n).p9 i).refs n).toNat).p9 0).type (Y (Y c.k9 n).p9 i).type)) (λh4=>?_) (λh4=>?_)
 .refine gr ?_
  exact ⟨_,rfl,by simp only [j5,Z,aO,h1,h2,h3,h4,e8,if_true,if_false]⟩
 refine tc ((!Q2 (Y (Y c.k9 n).p9 i).space []&& !Q2 (Y (Y c.k9 n).p9 i).refs [])|| !X1 (Y c.k9 n) (-1) (Y (Y c.k9 n).p9 i).L0|| !s4 (Y (Y c.k9 n).p9 i).jG 0 1||(A1 (O (Y (Y c.k9 n).p9 i).L0) 0&&(!A1 (Y (Y c.k9 n).p9 i).jG 0|| !A1 (Y (Y c.k9 n).p9 i).oA 0))) (And.intro (bf5 (Y c.k9 n) (Y (Y c.k9 n).p9 i).L0 ho hl) uG) (λh5=>?_) (λh5=>?_)
 .refine gr ?_
  exact ⟨_,rfl,by simp only [j5,Z,aO,h1,h2,h3,h4,h5,e8,if_true,if_false]⟩
 refine tc (!s4 (Y (Y c.k9 n).p9 i).oA 0 1048576||(!A1 (Y c.k9 n).cE 0&&J2 (Y c.k9 n).cE (Y (Y c.k9 n).p9 i).oA)||(A1 i 0&&J2 0 (O (Y (Y c.k9 n).p9 i).L0)&& !A1 (Y c.k9 n).erase 1)) uG (λh6=>?_) (λh6=>?_)
 .refine gr ?_
  exact ⟨_,rfl,by simp only [j5,Z,aO,h1,h2,h3,h4,h5,h6,e8,if_true,if_false]⟩
 refine tB ((!Q2 (Y (Y c.k9 n).p9 i).refs []&&J2 0 (O (Y (Y c.k9 (gb c (Y (Y c.k9 n).p9 i).refs n).toNat).p9 0).L0))&& !hasB (Y (Y c.k9 n).p9 i).L0 i) ?_ (λh7=>?_) (λh7=>?_)
 .repeat' (first|refine cl (bO5 (Y (Y c.k9 n).p9 i).L0 i ho) ?_|refine ixZ (hi:=⟨h3' hw,V⟩) (h2:=?_)|refine ixN (hi:=h3q hw) (h2:=?_)|refine gx ?_|refine fq (λhw=>?_) λhw=>?_|refine ⟨rfl,rfl,_,rfl,?_⟩|refine ⟨rfl,rfl⟩|fail)
  all_goals exact cc
 .refine gr ?_
  exact ⟨_,rfl,by simp only [j5,Z,aO,h1,h2,h3,h4,h5,h6,h7,e8,if_true,if_false]⟩
 refine gr ?_;exact ⟨_,rfl,by simp only [j5,Z,aO,h1,h2,h3,h4,h5,h6,h7,e8,if_true,if_false]⟩
def eU (c:s6)(n:Nat):Nat->Nat->Int
 |0,_=>0
 |k+1,i=>if !A1 (aO c n i) 0 then aO c n i else eU c n k (i+1)
def fh (c:s6)(n:Nat):Int :=
 if !s4 (O (Y c.k9 n).p9) 1 8|| !s4 (Y c.k9 n).erase 0 1|| !s4 (Y c.k9 n).cE 0 1048576 then 1 else eU c n (O (Y c.k9 n).p9) 0
structure s6.small (c:s6):Prop where
 lH:c.lH
 p9:∀n,n<O c.k9->O (Y c.k9 n).p9<=1000
 L0:∀n i,n<O c.k9->i<O (Y c.k9 n).p9->O (Y (Y c.k9 n).p9 i).L0<=1000
def bO0 (c:s6)(n:Nat)(hf:s6.small c)(hn:n<O c.k9)(hp:∀m,m<n->0<O (Y c.k9 m).p9):Pf A 144 [cat c,.d (Z n)] (.d (Z (fh c n))):=by
 have hl:=hf.p9 n hn;refine Pf.gr 5 ?_;refine tc (!s4 (O (Y c.k9 n).p9) 1 8|| !s4 (Y c.k9 n).erase 0 1|| !s4 (Y c.k9 n).cE 0 1048576) uG (λh1=>?_) (λh1=>?_)
 .refine gr ?_
  exact ⟨_,rfl,by simp only [j5,Z,fh,h1,if_true]⟩
 refine gr ?_;refine Ex.jH (λk T H=>∃(i:Nat) (v w z:c7),T=[v,.d (Z n),.ptr 0 0,w,.ptr 1 0,.d (Z i),z]/\H=[.cells (c.enc.map .d),.cells ((Y c.k9 n).enc.map .d)]/\i+k=O (Y c.k9 n).p9/\fh c n=eU c n k i) ?_ (k:=O (Y c.k9 n).p9) ⟨0,_,_,_,rfl,rfl,U,by simp only [fh,h1,e8,if_false]⟩;rintro k _ _ ⟨i,v,w,z,rfl,rfl,hk,hi⟩;refine Ex.nT ?_;refine Ex.seq ?_;refine tb (J2 i (O (Y c.k9 n).p9)) (λh2=>?_) (λh2=>?_)
 .have h3:=F5 h2
  obtain ⟨k,rfl⟩:∃k',k=k' +1:=⟨k - 1,V⟩
  repeat' (first|refine cl (bO8 c n i hf.lH hn V hl (hf.L0 n i hn V) hp) ?_|refine gy ?_|refine ft (λht=>?_) λht=>?_|refine ⟨_,rfl,?_⟩|fail)
  .simp [j5,hi,eU,ht]
  .exact ⟨k,V,i+1,_,_,_,rfl,rfl,V,by simp [hi,eU,ht]⟩
 .have h3:=G7 h2
  obtain rfl:k=0:=V
  refine gr ?_;exact ⟨_,rfl,by simp [j5,hi,eU,Z]⟩
def qX (v:Vw):Bool:=(!Q2 v.right []||A1 (O v.on) 0)&&bC (O v.on) 8&&bC (O v.items+O v.L7) 8
def ff (v:Vw):Bool :=
 if A1 v.kind 2 then !Q2 v.right []&&A1 (O v.on) 0&&A1 (O v.wh) 0&&A1 (O v.items) 0&&A1 (O v.L7) 0&& !v.distinct
 else if A1 v.kind 0 then !(A1 (O v.items) 0||J2 0 (O v.L7))&&qX v
 else !(A1 (O v.L7) 0||v.distinct)&&qX v
def vw (v:Vw):c7:= .agg (v.enc.map .d)
set_option maxHeartbeats 8000000 in
def bO9 (c:s6)(v:Vw)(h0:O v.items<=1000)(h1:O v.L7<=1000):Pf A 200 [cat c,vw v] (.d (.bool (ff v))):=by
 refine Pf.go 3 ?_
 repeat' (first|refine gy ?_|refine fq (λhw=>?_) λhw=>?_|refine ⟨_,rfl,?_⟩|fail)
 all_goals first|(simp [*,j5,ff,qX];done)|(simp_all [j5,ff,qX];done)|(simp_all [j5,ff,qX,A5,A7,p7,I5];done)|(simp_all [j5,ff,qX,A5,A7,p7,I5]<;>omega)
def S2 (l r:List Int):List (Int×Int)->Int
 |[]=>0
 |p::ps=>if !s4 p.1 0 (O l - 1)|| !s4 p.2 0 (O r - 1) then 3 else if !A1 (Y l p.1.toNat) (Y r p.2.toNat) then 5 else S2 l r ps
def bP1 (on:List (Int×Int))(l r:List Int)(h0:O on<=1000)(h1:O l<=100000)(h2:O r<=100000):Pf A 202 [.d (B8 (λp=>[Z p.1,Z p.2]) on),.d (ints l),.d (ints r)] (.d (Z (S2 l r on))):=by
 refine Pf.gr 2 ?_;refine Ex.R8 (λk T H=>∃(i:Nat),T=[.d (B8 (λp=>[Z p.1,Z p.2]) on),.d (ints l),.d (ints r),.any,.d (Z i)]/\H=[]/\i+k=O on/\S2 l r on=S2 l r (on.drop i)) ?_ (k:=O on) ⟨0,rfl,rfl,U,U⟩;rintro k _ _ ⟨i,rfl,rfl,hk,hi⟩;refine Ex.seq ?_;refine tl i (O on) (λh4=>?_) (λh4=>?_)
 .rw [E3 V] at hi
  refine gr ?_;refine tc (!s4 (Y on i).1 0 (O l - 1)|| !s4 (Y on i).2 0 (O r - 1)) uG (λh5=>?_) (λh5=>?_)
  .refine gr ?_
   exact ⟨_,rfl,by simp only [j5,Z,hi,S2,h5,if_true]⟩
  have h6:=h5;simp [s4,A7] at h6
  repeat' (first|refine gy ?_|refine ft (λht=>?_) λht=>?_|refine ⟨_,rfl,?_⟩|fail)
  .simp only [j5,Z,hi,S2,h5,ht,e8,if_true,if_false]
  .exact kk ⟨i+1,rfl,rfl,V,by simp only [hi,S2,h5,ht,e8,if_false]⟩
 .rw [o7 V] at hi
  refine gr ?_;exact ⟨_,rfl,by simp [j5,hi,S2,Z]⟩
end Go.Proofs.YtibjocmpkoepoaaGreat

