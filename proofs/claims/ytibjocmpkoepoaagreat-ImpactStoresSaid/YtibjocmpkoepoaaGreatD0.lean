import Derived.Test.YtibjocmpkoepoaaGreatAbs
set_option linter.all false
open Bool renaming and_eq_true→c9,false_eq_true→j6,not_eq_false'→B7,not_eq_true'→o9,or_eq_false_iff→B2,true→W,false→F
open Int renaming toNat_natCast→G6
open List renaming append_assoc→F5,drop_of_length_le→n5,length_append→j9,mem_cons→K2,take_of_length_le→s9,length→O
open Nat renaming lt_or_ge→y8
open Option renaming some→J,none→K
namespace Go.Proofs.YtibjocmpkoepoaaGreat
open Go.z6 Go.z6.S
attribute [local irreducible] Rx Ry Rn Ex Pf
def bH (n:Int):Bool:=U4 97 n&&U4 n 122
def jH (n:Int):Bool:=U4 48 n&&U4 n 57
def jO (n:Int):Bool:=bH n||jH n||s7 n 95
def K1:I4->Bool
 |[]=>F
 |c::r=>D0 (O r) 16&&bH c.toNat&&(c::r).all λc=>jO c.toNat
def YI (n:Int):Pf A 197 [.d (.int .u8 n)] (.d (.bool (bH n))):=by
 refine Pf.go 1 ?_
 repeat' (first|refine gy ?_|refine fq (λhw=>?_) λhw=>?_|refine ⟨_,rfl,?_⟩|fail)
 all_goals simp_all [j4,bH]
def Yi (n:Int):Pf A 244 [.d (.int .u8 n)] (.d (.bool (jH n))):=by
 refine Pf.go 1 ?_
 repeat' (first|refine gy ?_|refine fq (λhw=>?_) λhw=>?_|refine ⟨_,rfl,?_⟩|fail)
 all_goals simp_all [j4,jH]
def ay4 (n:Int):Pf A 198 [.d (.int .u8 n)] (.d (.bool (jO n))):=by
 refine Pf.go 1 ?_
 repeat' (first|refine cl (YI _) ?_|refine cl (Yi _) ?_|refine gy ?_|refine fq (λhw=>?_) λhw=>?_|refine ⟨_,rfl,?_⟩|fail)
 all_goals simp_all [j4,jO]
def Uu (s:I4):Pf A 143 [.d (.str s)] (.d (.bool (K1 s))):=by
 refine Pf.gr 2 ?_;refine Ex.dn (match s with|[]=>W|c::r=> !(D0 (O r) 16&&bH c.toNat)) (Rn.text ?_) (λht=>?_) (λht=>?_)
 .repeat' (first|refine cl (YI _) ?_|refine gx ?_|refine fq (λhw=>?_) λhw=>?_|refine ⟨rfl,rfl,_,rfl,?_⟩|refine ⟨rfl,rfl⟩|fail)
  all_goals cases s
  all_goals first|(simp [*,j4,O1];done)|(simp_all [j4,O1];done)|(simp_all [j4,O1,s4,r7,o6,E2];done)|(simp_all [j4,O1,s4,r7,o6,E2]<;>omega)
 .refine gr ?_
  refine ⟨_,rfl,?_⟩;cases s with
  |nil=>rfl
  |cons c r =>
   simp only [o9] at ht;simp only [K1,ht,j4,Bool.false_and]
 .cases s with
  |nil=>cases ht
  |cons c r =>
  have hl:=ht;simp [s4] at hl;have hb:O (c::r)<=16:=D
  refine gr ?_;refine Ex.J1 (λk T H=>∃(i:Nat),T=[.d (.str (c::r)),.any,.d (.int .i64 i)]/\H=[]/\i+k=O (c::r)/\K1 (c::r)=((c::r).drop i).all λc=>jO c.toNat) ?_ (k:=O (c::r)) ⟨0,rfl,rfl,U,by simp [K1,hl,s4]⟩;rintro k _ _ ⟨i,rfl,rfl,hk,hi⟩
  repeat' (first|refine cl (ay4 _) ?_|refine gy ?_|refine ft (λht=>?_) λht=>?_|refine ⟨_,rfl,?_⟩|fail)
  .simp only [o9] at ht
   simp only [j4];have h1:=A5 ‹_›;rw [hi,C5 V];simp [ht]
  .have h1:=A5 ‹_›
   rw [C5 V] at hi;simp only [B7] at ht;refine kk ⟨i+1,rfl,rfl,V,?_⟩;rw [hi];simp [ht]
  .have h1:=A9 ‹_›
   rw [n5 V] at hi;simp [hi,j4]
def oP (n a b:Int):Pf A 111 [.d (Z n),.d (Z a),.d (Z b)] (.d (.bool (p9 n a b))):=by
 refine Pf.go 1 ?_
 repeat' (first|refine gy ?_|refine fq (λhw=>?_) λhw=>?_|refine ⟨_,rfl,?_⟩|fail)
 all_goals first|(simp [*,j4,p9];done)|(simp_all [j4,p9];done)|(simp_all [j4,p9,s4,r7,o6,E2];done)|(simp_all [j4,p9,s4,r7,o6,E2]<;>omega)
def lX (n a b:Int):Pf A 210 [.d (Z n),.d (Z a),.d (Z b)] (.d (.bool (p9 n a b))):=by
 refine Pf.go 1 ?_
 repeat' (first|refine gy ?_|refine fq (λhw=>?_) λhw=>?_|refine ⟨_,rfl,?_⟩|fail)
 all_goals first|(simp [*,j4,p9];done)|(simp_all [j4,p9];done)|(simp_all [j4,p9,s4,r7,o6,E2];done)|(simp_all [j4,p9,s4,r7,o6,E2]<;>omega)
def Yl (n:Int):Pf A 250 [.d (Z n)] (.d (.bool (s7 n 1||s7 n 2))):=by
 refine Pf.go 1 ?_
 repeat' (first|refine gy ?_|refine fq (λhw=>?_) λhw=>?_|refine ⟨_,rfl,?_⟩|fail)
 all_goals exact cc
def ints (l:List Int):z6.Data:=x3 (λn=>[Z n]) l
def hasB (l:List Int)(n:Int):Bool:=l.any λx=>s7 x n
def ay3 (xs:List Int)(n:Int)(hx:O xs<=1000):Pf A 246 [.d (ints xs),.d (Z n)] (.d (.bool (hasB xs n))):=by
 refine Pf.gr 2 ?_;refine Ex.J1 (λk T H=>∃(i:Nat),T=[.d (ints xs),.d (Z n),.any,.d (Z i)]/\H=[]/\i+k=O xs/\hasB xs n=(xs.drop i).any λx=>s7 x n) ?_ (k:=O xs) ⟨0,rfl,rfl,U,by simp [hasB]⟩;rintro k _ _ ⟨i,rfl,rfl,hk,hi⟩
 repeat' (first|refine gy ?_|refine ft (λht=>?_) λht=>?_|refine ⟨_,rfl,?_⟩|fail)
 .have h1:=A5 ‹D0 i _=W›
  rw [C5 V] at hi;simp [hi,ht,j4]
 .have h1:=A5 ‹D0 i _=W›
  rw [C5 V] at hi;exact kk ⟨i+1,rfl,rfl,V,by simp [hi,ht]⟩
 .have h1:=A9 ht
  rw [n5 V] at hi;simp [hi,j4]
def dh {α:Type}(eq:α->α->Bool):List α->List α->Bool
 |[],[]=>W
 |a::l,c::m=>eq a c&&dh eq l m
 |_,_=>F
theorem mW {α:Type}{eq:α->α->Bool}:∀{l m:List α},O l≠O m->dh eq l m=F
 |[],[],h=>absurd rfl h
 |[],_::_,_=>rfl
 |_::_,[],_=>rfl
 |a::l,c::m,h=>by simp only [dh,mW (l:=l) (m:=m) (by simpa using h),Bool.and_false]
def ay7 (xs ys:List Int)(hx:O xs<=100000):Pf A 201 [.d (ints xs),.d (ints ys)] (.d (.bool (dh s7 xs ys))):=by
 refine Pf.go 2 ?_
 repeat' (first|refine gy ?_|refine ft (λht=>?_) λht=>?_|refine ⟨_,rfl,?_⟩|fail)
 .have h1:O xs≠O ys:=by simp [o6] at ht;omega
  simp [mW h1,j4]
 have hl:O xs=O ys:=by simp [o6] at ht;omega
 refine Ex.J1 (λk T H=>∃(i:Nat),T=[.d (ints xs),.d (ints ys),.any,.d (Z i)]/\H=[]/\i+k=O xs/\dh s7 xs ys=dh s7 (xs.drop i) (ys.drop i)) ?_ (k:=O xs) ⟨0,rfl,rfl,U,U⟩;rintro k _ _ ⟨i,rfl,rfl,hk,hi⟩
 repeat' (first|refine gy ?_|refine ft (λht=>?_) λht=>?_|refine ⟨_,rfl,?_⟩|fail)
 .have h1:=A5 ‹D0 i _=W›
  rw [C5 V,C5 (l:=ys) V] at hi;simp only [o9] at ht;simp [hi,dh,ht,j4]
 .have h1:=A5 ‹D0 i _=W›
  rw [C5 V,C5 (l:=ys) V] at hi;simp only [B7] at ht;exact kk ⟨i+1,rfl,rfl,V,by simp [hi,dh,ht]⟩
 .have h1:=A9 ht
  rw [n5 V,n5 V] at hi;simp [hi,dh,j4]
def Yf (xs ys:List Int)(hx:O xs<=100000):Pf A 218 [.d (ints xs),.d (ints ys)] (.d (.bool (dh s7 xs ys))):=by
 refine Pf.go 4 ?_
 repeat' (first|refine gy ?_|refine ft (λht=>?_) λht=>?_|refine ⟨_,rfl,?_⟩|fail)
 .have h1:O xs≠O ys:=by simp [o6] at ht;omega
  simp [mW h1,j4]
 have hl:O xs=O ys:=by simp [o6] at ht;omega
 refine Ex.J1 (λk T H=>∃(i:Nat),T=[.d (ints xs),.d (ints ys),.any,.any,.d (Z (O xs)),.d (Z i)]/\H=[]/\i+k=O xs/\dh s7 xs ys=dh s7 (xs.drop i) (ys.drop i)) ?_ (k:=O xs) ⟨0,rfl,rfl,U,U⟩;rintro k _ _ ⟨i,rfl,rfl,hk,hi⟩
 repeat' (first|refine gy ?_|refine ft (λht=>?_) λht=>?_|refine ⟨_,rfl,?_⟩|fail)
 .have h1:=A5 ‹D0 i _=W›
  rw [C5 V,C5 (l:=ys) V] at hi;simp only [o9] at ht;simp [hi,dh,ht,j4]
 .have h1:=A5 ‹D0 i _=W›
  rw [C5 V,C5 (l:=ys) V] at hi;simp only [B7] at ht;exact kk ⟨i+1,rfl,rfl,V,by simp [hi,dh,ht]⟩
 .have h1:=A9 ht
  rw [n5 V,n5 V] at hi;simp [hi,dh,j4]
def val (k n:Int)(s:I4):c7:= .agg [.d (Z k),.d (Z n),.d (.str s)]
def trm (t:Q9):c7:= .agg (t.enc.map .d)
set_option maxHeartbeats 2000000 in
def YA (k n:Int)(s:I4):Pf A 228 [val k n s] (.d (.bool (fA k n s))):=by
 refine Pf.go 3 ?_
 repeat' (first|refine gy ?_|refine fq (λhw=>?_) λhw=>?_|refine ⟨_,rfl,?_⟩|fail)
 all_goals first|(simp [*,j4,fA];done)|(simp_all [j4,fA];done)|(simp_all [j4,fA,s4,r7,o6,E2];done)|(simp_all [j4,fA,s4,r7,o6,E2]<;>omega)
set_option maxHeartbeats 2000000 in
def YB (k n:Int)(s:I4):Pf A 303 [val k n s] (.d (.bool (fA k n s))):=by
 refine Pf.go 3 ?_
 repeat' (first|refine gy ?_|refine fq (λhw=>?_) λhw=>?_|refine ⟨_,rfl,?_⟩|fail)
 all_goals first|(simp [*,j4,fA];done)|(simp_all [j4,fA];done)|(simp_all [j4,fA,s4,r7,o6,E2];done)|(simp_all [j4,fA,s4,r7,o6,E2]<;>omega)
set_option maxHeartbeats 2000000 in
def Su (t:Q9):Pf A 272 [trm t] (.d (.bool (bG t))):=by
 refine Pf.go 3 ?_
 repeat' (first|refine cl (YA _ _ _) ?_|refine gy ?_|refine fq (λhw=>?_) λhw=>?_|refine ⟨_,rfl,?_⟩|fail)
 all_goals first|(simp [*,j4,bG,zeroV];done)|(simp_all [j4,bG,zeroV];done)|(simp_all [j4,bG,zeroV,s4,r7,o6,E2];done)|(simp_all [j4,bG,zeroV,s4,r7,o6,E2]<;>omega)
set_option maxHeartbeats 2000000 in
def Is (op:Int):Pf A 141 [.d (Z op)] (.d (Z (jA op))):=by
 refine Pf.go 4 ?_
 repeat' (first|refine gy ?_|refine fq (λhw=>?_) λhw=>?_|refine ⟨_,rfl,?_⟩|fail)
 all_goals first|(simp [*,j4,jA,Z];done)|(simp_all [j4,jA,Z];done)|(simp_all [j4,jA,Z,s4,r7,o6,E2];done)|(simp_all [j4,jA,Z,s4,r7,o6,E2]<;>omega)
set_option maxHeartbeats 8000000 in
def Nt (op:Int):Pf A 290 [.d (Z op)] (.d (Z (jA op))):=by
 refine Pf.go 5 ?_
 repeat' (first|refine gy ?_|refine fq (λhw=>?_) λhw=>?_|refine ⟨_,rfl,?_⟩|fail)
 all_goals first|(simp [*,j4,jA,Z];done)|(simp_all [j4,jA,Z];done)|(simp_all [j4,jA,Z,s4,r7,o6,E2];done)|(simp_all [j4,jA,Z,s4,r7,o6,E2]<;>omega)
def cH (e:List Q9):c7:= .d (x3 Q9.enc e)
def oz (e:List Q9)(d p:Nat):Int:=match L6 d (e.drop p) with
 |none=> -1
 |some (_,r)=>((O e - O r:Nat):Int)
def AY (e:List Q9)(d k p:Nat):Int:=match cT (L6 d) k (e.drop p) with
 |none=> -1
 |some (_,r)=>((O e - O r:Nat):Int)
def Jg {e:List Q9}{d p:Nat}(hp:p<O e)(h:uO (Y e p)=W):oz e (d+1) p=AY e d (jA (Y e p).op).toNat (p+1):=by
 simp only [oz,AY];rw [C5 hp,L6,h,if_pos rfl];cases cT (L6 d) (jA (Y e p).op).toNat (e.drop (p+1)) with
 |none=>rfl
 |some x=>rfl
def zy {e:List Q9}{d p:Nat}(h:O e<=p\/d=0\/uO (Y e p)=F):oz e d p= -1:=by
 simp only [oz]
 rcases h with h|h|h
 .rw [n5 h]
  cases d<;>rfl
 .subst h;rfl
 .rcases y8 p (O e) with hp|hp
  .rw [C5 hp]
   cases d with
   |zero=>rfl
   |succ d=>rw [L6,h,if_neg U]
  .rw [n5 hp]
   cases d<;>rfl
def oA (e:List Q9)(d p:Nat):(oz e d p= -1/\L6 d (e.drop p)=K)\/∃q:Nat,oz e d p=q/\q<=O e/\p<=q/\∃a,L6 d (e.drop p)=J (a,e.drop q):=by
 simp only [oz];cases h:L6 d (e.drop p) with
 |none=>exact Or.inl ⟨rfl,rfl⟩
 |some x =>
  obtain ⟨a,r⟩:=x;right;obtain ⟨h1,_,_⟩:=R1 d _ a r h;have h2:O r<=O e - p:=by
   have:=congrArg List.length h1;simp at this;omega
  have h4:p<=O e:=by
   rcases y8 (O e) p with hp|hp
   .rw [n5 V] at h1
    have:=congrArg List.length h1;have:=gp a;simp at *
    omega
   .exact hp
  refine ⟨O e - O r,rfl,V,V,a,?_⟩;have h3:e.drop (O e - O r)=r:=by
   have h5:e=(e.take p++a.flat)++r:=by rw [F5,<- h1,List.take_append_drop]
   conv=>lhs;rw [h5]
   rw [List.drop_append_of_le_length D,n5 D];rfl
  rw [h3]
def Jf {e:List Q9}{d k p:Nat}:AY e d (k+1) p=if D0 (oz e d p) 0 then -1 else AY e d k (oz e d p).toNat:=by
 rcases oA e d p with ⟨h1,h2⟩|⟨q,h1,_,_,a,h2⟩
 .rw [h1,if_pos (by simp [s4])]
  simp only [AY,cT,h2]
 .rw [h1,if_neg (by simp [s4])]
  simp only [AY,cT,h2,G6];cases cT (L6 d) k (e.drop q) with
  |none=>rfl
  |some x=>rfl
set_option maxHeartbeats 2000000 in
def Ss (e:List Q9)(he:O e<=1000):∀d p:Nat,d<=100->p<=2000->Pf A 229 [cH e,.d (Z p),.d (Z d)] (.d (Z (oz e d p))):=by
 intro d
 induction d with
 |zero =>
  intro p _ hp;refine Pf.run [cH e,.d (Z p),.d (Z (0:Nat)),.any,.any,.any] rfl rfl rfl rfl ?_;refine gr ?_;refine tc (W) (And.intro Is Su) (λh1=>?_) (λh1=>?_)
  .refine gr ?_
   exact ⟨_,rfl,by rw [zy (Or.inr (Or.inl rfl))];rfl⟩
  .cases h1
 |succ d ih =>
  intro p hd hp;refine Pf.run [cH e,.d (Z p),.d (Z (d+1:Nat)),.any,.any,.any] rfl rfl rfl rfl ?_;refine gr ?_;refine tB (U4 (O e) p|| !uO (Y e p)) ?_ (λh1=>?_) (λh1=>?_)
  .repeat' (first|refine cl (Is _) ?_|refine cl (Su _) ?_|refine gx ?_|refine fq (λhw=>?_) λhw=>?_|refine ⟨rfl,rfl,_,rfl,?_⟩|refine ⟨rfl,rfl⟩|fail)
   all_goals first|(simp [*,j4,uO];done)|(simp_all [j4,uO];done)|(simp_all [j4,uO,s4,r7,o6,E2];done)|(simp_all [j4,uO,s4,r7,o6,E2]<;>omega)
  .refine gr ?_
   refine ⟨_,rfl,?_⟩;rw [zy]
   .rfl
   .simp only [Bool.or_eq_true,o9] at h1
    rcases h1 with h|h
    .have:=gU h;left;omega
    .exact Or.inr (Or.inr h)
  simp only [B2,B7] at h1;have h2:=nO h1.1;have h3:=mI (Y e p).op;have h4:0<=jA (Y e p).op:=by
   have:=h1.2;simp only [uO,c9,o9] at this;exact A9 this.1
  refine gc Is ?_;refine Ex.Y1 (λk T H=>∃(i q:Nat) (v:c7),T=[cH e,.d (Z q),.d (Z (d+1:Nat)),v,.d (Z (jA (Y e p).op)),.d (Z i)]/\H=[]/\(i:Int)+k=jA (Y e p).op/\q<=O e/\oz e (d+1) p=AY e d k q) ?_ (k:=(jA (Y e p).op).toNat) ⟨0,p+1,_,rfl,rfl,V,V,Jg V h1.2⟩;rintro k _ _ ⟨i,q,v,rfl,rfl,hk,hq,hi⟩;refine Ex.nT ?_;refine Ex.seq ?_;refine tl i (jA (Y e p).op) (λh6=>?_) (λh6=>?_)
  .obtain ⟨k,rfl⟩:∃k',k=k' +1:=⟨k - 1,V⟩
   refine gr ?_;refine cl (ih q V V) ?_ (ha:=by rw [show (d:Int)=((d+1:Nat):Int) - 1 by omega];rfl);rw [Jf] at hi
   rcases oA e d q with ⟨e1,_⟩|⟨q',e1,e2,_,_,_⟩
   .rw [e1] at hi ⊢
    have e3:D0 (-1) 0=W:=by simp [s4]
    rw [e3,if_pos rfl] at hi;refine gr ?_;refine tb (W) (λh7=>?_) (λh7=>?_)
    .refine gr ?_
     exact ⟨_,rfl,by rw [hi];rfl⟩
    .cases h7
   .rw [e1] at hi ⊢
    have e3:D0 (q' :Int) 0=F:=by simp [s4]
    rw [e3,if_neg U] at hi;refine gr ?_;refine tb (F) (λh7=>?_) (λh7=>?_)
    .cases h7
    refine gr ?_;exact ⟨k,V,i+1,q',_,rfl,rfl,V,V,hi⟩
  .obtain rfl:k=0:=V
   refine gr ?_;refine ⟨_,rfl,?_⟩;have h8:AY e d 0 q=q:=by simp only [AY,cT,List.length_drop];omega
   rw [hi,h8];rfl
def U1 (e:List Q9):Bool:=U4 1 (O e)&&U4 (O e) 64&&s7 (oz e 16 0) (O e)
def Sn (e:List Q9)(he:O e<=1000):Pf A 170 [cH e] (.d (.bool (U1 e))):=by
 refine Pf.go 1 ?_
 repeat' (first|refine cl (Ss e he 16 0 V V) ?_|refine gy ?_|refine fq (λhw=>?_) λhw=>?_|refine ⟨_,rfl,?_⟩|fail)
 all_goals first|(simp [*,j4,U1];done)|(simp_all [j4,U1];done)|(simp_all [j4,U1,s4,r7,o6,E2];done)|(simp_all [j4,U1,s4,r7,o6,E2]<;>omega)
theorem ee (e:List Q9):U1 e=(ek e).isSome:=by
 unfold U1 ek;cases h:(U4 1 (O e)&&U4 (O e) 64) with
 |false=>rfl
 |true =>
  simp only [if_true,Bool.true_and];simp only [c9] at h;have hl:=gU h.1;simp only [oz,List.drop_zero];cases h1:L6 16 e with
  |none =>
   simp only [Option.isSome_none,o6];simp
  |some x =>
   obtain ⟨a,r⟩:=x;obtain ⟨h2,_,_⟩:=R1 16 e a r h1;have h3:O a.flat+O r=O e:=by rw [h2];simp
   have h4:=gp a;cases r with
   |nil=>simp [o6]
   |cons t r=>simp [o6] at *;omega
def UL (l:List Y9):c7:= .d (x3 (λx=>[x3 Q9.enc x]) (l.map Y9.flat))
def FI {e:List Q9}{p:Nat}{a:Y9}{l:List Y9}(h:e.drop p=K9 (a::l)):e.drop (p+O a.flat)=K9 l/\(e.take (p+O a.flat)).drop p=a.flat:=by
 constructor
 .rw [<- List.drop_drop,h,K9,List.drop_left]
 .rw [List.drop_take,h,Nat.add_sub_cancel_left,K9,List.take_left]
set_option maxHeartbeats 2000000 in
def Yr (t:Q9)(l:List Y9)(he:O (t::K9 l)<=1000)(hw:OT l)(hd:jG l<=16):Pf A 230 [cH (t::K9 l)] (UL l):=by
 refine Pf.gr 4 ?_;refine Ex.Y1 (λk T H=>∃(p:Nat) (l1 l2:List Y9) (v w:c7),T=[cH (t::K9 l),v,A8 1 (λx=>[x3 Q9.enc x]) (l1.map Y9.flat),.d (Z p),w]/\H=[]/\k=O l2/\l=l1++l2/\p<=O (t::K9 l)/\(t::K9 l).drop p=K9 l2/\OT l2/\jG l2<=16) ?_ (k:=O l) ⟨1,[],l,_,_,rfl,rfl,rfl,rfl,U,rfl,hw,hd⟩;rintro k _ _ ⟨p,l1,l2,v,w,rfl,rfl,hk,hl,hp,hp2,Jz,hd2⟩;have hlen:=rH l;have Jr:O l1<=1000:=by
  have:=congrArg List.length hl;simp at this he;omega
 have nL:O (K9 l2)+p=O (t::K9 l):=by rw [<- hp2];simp at hp ⊢;omega
 refine Ex.nT ?_;refine Ex.seq ?_;refine tb (D0 p (O (t::K9 l))) (λh1=>?_) (λh1=>?_)
 .have h2:=A5 h1
  cases l2 with
  |nil=>simp [K9] at nL h2;omega
  |cons a l2 =>
  have h3:=FI hp2;have h4:oz (t::K9 l) 16 p=((p+O a.flat:Nat):Int):=by
   simp only [jG] at hd2;simp only [oz,hp2,K9];rw [U8 a 16 (K9 l2) Jz.1 V];simp only [K9,j9] at nL;simp only;omega
  have h5:=Ss (t::K9 l) he 16 p V V;rw [h4] at h5;simp only [K9,j9] at nL;refine gc h5 ?_;refine ⟨O l2,by simp at hk;omega,p+O a.flat,l1++[a],l2,.any,.d (Z (p+O a.flat:Nat)),by rw [h3.2];simp [A8],rfl,rfl,by simp [hl],V,h3.1,Jz.2,by simp only [jG] at hd2;omega⟩
 .have h2:=A9 h1
  cases l2 with
  |cons a l2 =>
   have:=gp a;simp only [K9,j9] at nL;omega
  |nil =>
  refine gr ?_;refine ⟨_,rfl,?_⟩;simp at hl;subst hl;rfl
def Ea (op:Int)(k:Nat):Prop:=(op=3\/op=9\/op=13\/op=16)/\k=1\/op=18/\k=3\/4<=op/\op<=17/\op≠9/\op≠13/\op≠16/\k=2
def Nc {t:Q9}{k:Nat}(h:uO t=W)(hk:(jA t.op).toNat=k)(h1:s7 t.op 1=F)(h2:s7 t.op 2=F):Ea t.op k:=by
 simp only [uO,c9,o9] at h;have h3:=A9 h.1;simp only [jA,h1,h2,Bool.or_self,j6,if_false,Bool.or_eq_true,c9] at h3 hk;unfold Ea;split at h3
 next h4=>
  rw [if_pos h4] at hk;simp [o6] at h4 hk;left;omega
 next h4=>
  rw [if_neg h4] at hk;simp [o6] at h4 h1 h2;split at h3
  next h5=>
   rw [if_pos h5] at hk;simp [o6] at h5 hk;right;left;omega
  next h5=>
   rw [if_neg h5] at hk;simp [o6] at h5;split at h3
   next h6=>
    rw [if_pos h6] at hk;simp [r7] at h6 hk;right;right;omega
   .omega
set_option maxHeartbeats 16000000 in
def Ys (op:Int)(t:List Int)(h:Ea op (O t)):Pf A 231 [.d (Z op),.d (ints t)] (.d (Z (fu op t))):=by
 unfold Ea at h;refine Pf.go 7 ?_
 repeat' (first|refine gy ?_|refine fq (λhw=>?_) λhw=>?_|refine ⟨_,rfl,?_⟩|fail)
 all_goals first|(simp [*,j4,fu,Z];done)|(simp_all [j4,fu,Z];done)|(simp_all [j4,fu,Z,s4,r7,o6,E2];done)|(simp_all [j4,fu,Z,s4,r7,o6,E2]<;>omega)
def Qr {α:Type} [Inhabited α] (l1:List α)(a:α)(l2:List α):Y (l1++a::l2) (O l1)=a:=by
 rw [A7 U];simp
theorem vZ {a:Y9}:∀{l:List Y9},a∈l->O a.flat<=O (K9 l)
 |b::l,h=>by
  simp only [K9,j9]
  rcases K2.1 h with rfl|h
  .omega
  .have:=vZ h;omega
theorem GN {a:Y9}:∀{l:List Y9},OT l->a∈l->a.wf
 |b::l,hw,h=>by
  rcases K2.1 h with rfl|h
  .exact hw.1
  .exact GN hw.2 h
theorem Hu {a:Y9}:∀{l:List Y9},a∈l->a.dep<=jG l
 |b::l,h=>by
  simp only [jG]
  rcases K2.1 h with rfl|h
  .omega
  .have:=Hu h;omega
set_option maxHeartbeats 4000000 in
def Yk (ty:List Int):∀(n:Nat) (a:Y9),O a.flat<=n->n<=1000->a.wf->a.dep<=16->Pf A 171 [cH a.flat,.d (ints ty)] (.tuple [.d (Z (a.typ ty).1),.d (Z (a.typ ty).2)]):=by
 intro n
 induction n with
 |zero=>intro a h;have:=gp a;omega
 |succ n ih =>
 rintro ⟨t,l⟩ hn hn2 hw hd;simp only [Y9.flat] at hn ⊢;simp only [Y9.dep] at hd;have hle:O (t::K9 l)<=1000:=V
 have hpos:0<O (t::K9 l):=U
 have h0:Y (t::K9 l) 0=t:=O1 _ _;obtain ⟨hok,Vp,Fg⟩:=hw;have Mj:=rH l;have WM:O l<=3:=by have:=mI t.op;omega
 refine Pf.run [cH (t::K9 l),.d (ints ty),.any,.any,.any,.any,.any,.any,.any,.any,.any] rfl rfl rfl rfl ?_;refine gr ?_;rw [h0];have PG:s7 t.op 2=W->s7 t.op 1=F->0<=t.col:=λh h' =>by
  simp only [uO,bG,h,h',if_true,j6,if_false,c9] at hok;exact gU hok.2.2
 have hl0:(s7 t.op 1||s7 t.op 2)=W->l=[]:=λh=>by
  have:jA t.op=0:=by unfold jA;rw [h,if_pos rfl]
  rw [this] at Vp;cases l with
  |nil=>rfl
  |cons a l=>simp at Vp
 refine tb (s7 t.op 1) (λh1=>?_) (λh1=>?_)
 .refine gr ?_
  refine ⟨_,rfl,?_⟩;rw [hl0 (by simp [h1])];simp [j4,Y9.typ,eU,xM,h1,o6,Z,c7.I7,O1]
 refine gr ?_;refine tb (s7 t.op 2) (λh2=>?_) (λh2=>?_)
 .have hc:=PG h2 h1
  have Mj:=hl0 (by simp [h2]);refine gr ?_;refine tB (U4 (O ty) t.col) ?_ (λh3=>?_) (λh3=>?_)
  .repeat' (first|refine gx ?_|refine fq (λhw=>?_) λhw=>?_|refine ⟨rfl,rfl,_,rfl,?_⟩|refine ⟨rfl,rfl⟩|fail)
   all_goals first|(simp [*,j4,O1];done)|(simp_all [j4,O1];done)|(simp_all [j4,O1,s4,r7,o6,E2];done)|(simp_all [j4,O1,s4,r7,o6,E2]<;>omega)
  .refine gr ?_
   refine ⟨_,rfl,?_⟩;rw [Mj];simp [j4,Y9.typ,eU,xM,h1,h2,h3,o6,Z,c7.I7]
  .have h4:=nO h3
   refine gr ?_;rw [h0];refine gr ?_;refine ⟨_,rfl,?_⟩;rw [Mj];simp [j4,Y9.typ,eU,xM,h1,h2,h3,o6,Z,c7.I7]
 have hfit:=Nc hok Vp h1 h2;refine gc (Yr t l hle Fg V) ?_;refine Ex.Y1 (λk T H=>∃(i:Nat) (l1 l2:List Y9) (ts:List Int) (v2 v3 v7 v8 v9 v10:c7),T=[cH (t::K9 l),.d (ints ty),v2,v3,A8 1 (λn=>[Z n]) ts,UL l,.d (Z i),v7,v8,v9,v10]/\H=[]/\i=O l1/\k=O l2/\l=l1++l2/\O ts=O l1/\(eU ty l).1=ts++(eU ty l2).1/\(eU ty l).2=(eU ty l2).2) ?_ (k:=O l) ⟨0,[],l,[],_,_,_,_,_,_,rfl,rfl,rfl,rfl,rfl,rfl,rfl,rfl⟩;rintro k _ _ ⟨i,l1,l2,ts,v2,v3,v7,v8,v9,v10,rfl,rfl,xZ,hk,hl,hts,e1,e2⟩;have hlen:O l=O l1+O l2:=by rw [hl];simp
 refine Ex.nT ?_;refine Ex.seq ?_;unfold UL;refine tl i (O l) (λh4=>?_) (λh4=>?_)
 .cases l2 with
  |nil=>simp at hlen;omega
  |cons a l2 =>
  have hm:Y (l.map Y9.flat) i=a.flat:=by
   have:=Qr (l1.map Y9.flat) a.flat (l2.map Y9.flat);rw [hl,xZ];simpa using this
  have ha:a∈l:=by rw [hl];simp
  have hp:=ih a (by have:=vZ ha;simp at hn;omega) V (GN Fg ha) (by have:=Hu ha;omega);have PK:i<O (l.map Y9.flat):=D
  refine gr ?_;rw [hm];simp only [eU] at e1 e2;refine gc hp ?_;refine tb (!s7 (a.typ ty).2 0) (λh5=>?_) (λh5=>?_)
  .simp only [o9] at h5
   simp only [h5,j6,if_false] at e1 e2;refine gr ?_;refine ⟨_,rfl,?_⟩;simp [j4,Y9.typ,e2,h5,c7.I7,Z]
  .simp only [B7] at h5
   simp only [h5,if_true] at e1 e2;refine gr ?_;exact ⟨O l2,by simp at hk;omega,i+1,l1++[a],l2,ts++[(a.typ ty).1],_,_,_,_,_,_,rfl,rfl,by simp [xZ],rfl,by simp [hl],by simp [hts],by simp [e1],e2⟩
 .cases l2 with
  |cons a l2=>simp at hlen;omega
  |nil =>
  simp only [eU,List.append_nil] at e1 e2;refine gr ?_;rw [h0];have WI:Ea t.op (O ts):=by rw [hts];simpa [hl] using hfit
  refine gc (Ys t.op ts WI) ?_;refine tb (s7 (fu t.op ts) 0) (λh5=>?_) (λh5=>?_)
  .refine gr ?_
   refine ⟨_,rfl,?_⟩;simp [j4,Y9.typ,e1,e2,h1,h2,h5,xM,c7.I7,Z,o6]
  .refine gr ?_
   refine ⟨_,rfl,?_⟩;simp [j4,Y9.typ,e1,e2,h1,h2,h5,xM,c7.I7,Z,o6]
def pair (p:Int×Int):c7:= .tuple [.d (Z p.1),.d (Z p.2)]
set_option maxHeartbeats 2000000 in
def Ir (e:List Q9)(ty:List Int)(he:O e<=1000)(ht:O ty<=100000):Pf A 114 [cH e,.d (ints ty)] (pair (K4 e ty)):=by
 refine Pf.gr 3 ?_;refine tc (!U1 e) (Sn e he) (λh1=>?_) (λh1=>?_)
 .refine gr ?_
  refine ⟨_,rfl,?_⟩;rw [ee] at h1;cases h2:ek e with
  |none=>simp [K4,h2,j4,pair,Z,c7.I7]
  |some a=>simp [h2] at h1
 rw [ee] at h1;cases h2:ek e with
 |none=>simp [h2] at h1
 |some a =>
 have h3:e=a.flat/\a.wf/\a.dep<=16:=by
  unfold ek at h2;split at h2
  .split at h2
   next b h4=>
    obtain ⟨e1,e2,e3⟩:=R1 16 e b [] h4;cases h2;exact ⟨by simpa using e1,e2,e3⟩
   .cases h2
  .cases h2
 refine gr ?_;refine Ex.J1 (λk T H=>∃(i:Nat),T=[cH e,.d (ints ty),.any,.any,.d (Z i)]/\H=[]/\i+k=O ty/\aR ty=aR (ty.drop i)) ?_ (k:=O ty) ⟨0,rfl,rfl,U,U⟩;rintro k _ _ ⟨i,rfl,rfl,hk,hi⟩;refine Ex.seq ?_;refine tl i (O ty) (λh5=>?_) (λh5=>?_)
 .rw [C5 V] at hi
  refine gr ?_;refine tb (!s7 (Y ty i) 1&& !s7 (Y ty i) 2) (λh6=>?_) (λh6=>?_)
  .refine gr ?_
   refine ⟨_,rfl,?_⟩;have h7:aR ty=F:=by
    rw [hi];simp only [c9,o9] at h6;simp [aR,h6]
   simp [K4,h2,h7,j4,pair,Z,c7.I7]
  .refine gr ?_
   refine kk ⟨i+1,rfl,rfl,V,?_⟩;rw [hi];simp only [aR,List.all_cons];cases h7:s7 (Y ty i) 1<;>cases h8:s7 (Y ty i) 2<;>simp_all
 .rw [n5 V] at hi
  have h6:=Yk ty (O e) a (by rw [h3.1];omega) he h3.2.1 h3.2.2;rw [<- h3.1] at h6;refine gc h6 ?_;refine ⟨_,rfl,?_⟩;have hg:aR ty=W:=by rw [hi];rfl
  simp [K4,h2,hg,j4,pair,c7.I7]
def encS (s:I4):List z6.Data:=[.str s]
set_option maxHeartbeats 4000000 in
def YF (c:p7)(hf:c.dP):Pf A 142 [cat c] (.d (x3 encS c.names)):=by
 obtain ⟨f0,f1,f2,f3,f4,f5,f6,f7⟩:=hf;refine Pf.gr 11 ?_;refine Ex.J1 (λk T H=>∃(i:Nat) (acc:List I4),T=[.any,.ptr 0 0,.any,A8 1 encS acc,.d (Z i),.any,.any,.any,.any,.any,.any,.any]/\H=[.cells (c.enc.map .d)]/\i+k=O c.j7/\acc=([]:List I4)++(c.j7.take i).map cI.name) ?_ (k:=O c.j7) ⟨0,([]:List I4),rfl,rfl,U,U⟩;rintro k _ _ ⟨i,acc,rfl,rfl,hk,hacc⟩;have hl:O acc=0+i:=by rw [hacc];simp;omega
 repeat' (first|refine gy ?_|refine ft (λht=>?_) λht=>?_|refine ⟨_,rfl,?_⟩|fail)
 .have h1:=A5 ht
  refine kk ⟨i+1,acc++[(Y c.j7 i).name],rfl,rfl,V,?_⟩;rw [D2 V,hacc];simp
 have h1:=A9 ht;rw [s9 V] at hacc;clear ht h1 hk hl;subst hacc;refine Ex.J1 (λk T H=>∃(i:Nat) (acc:List I4),T=[.any,.ptr 0 0,.any,A8 1 encS acc,.any,.d (Z i),.any,.any,.any,.any,.any,.any]/\H=[.cells (c.enc.map .d)]/\i+k=O c.views/\acc=c.j7.map cI.name++(c.views.take i).map Vw.name) ?_ (k:=O c.views) ⟨0,c.j7.map cI.name,rfl,rfl,U,U⟩;rintro k _ _ ⟨i,acc,rfl,rfl,hk,hacc⟩;have hl:O acc=0+O c.j7+i:=by rw [hacc];simp;omega
 repeat' (first|refine gy ?_|refine ft (λht=>?_) λht=>?_|refine ⟨_,rfl,?_⟩|fail)
 .have h1:=A5 ht
  refine kk ⟨i+1,acc++[(Y c.views i).name],rfl,rfl,V,?_⟩;rw [D2 V,hacc];simp
 have h1:=A9 ht;rw [s9 V] at hacc;clear ht h1 hk hl;subst hacc;refine Ex.J1 (λk T H=>∃(i:Nat) (acc:List I4),T=[.any,.ptr 0 0,.any,A8 1 encS acc,.any,.any,.d (Z i),.any,.any,.any,.any,.any]/\H=[.cells (c.enc.map .d)]/\i+k=O c.idxs/\acc=c.j7.map cI.name++c.views.map Vw.name++(c.idxs.take i).map iL.name) ?_ (k:=O c.idxs) ⟨0,c.j7.map cI.name++c.views.map Vw.name,rfl,rfl,U,U⟩;rintro k _ _ ⟨i,acc,rfl,rfl,hk,hacc⟩;have hl:O acc=0+O c.j7+O c.views+i:=by rw [hacc];simp;omega
 repeat' (first|refine gy ?_|refine ft (λht=>?_) λht=>?_|refine ⟨_,rfl,?_⟩|fail)
 .have h1:=A5 ht
  refine kk ⟨i+1,acc++[(Y c.idxs i).name],rfl,rfl,V,?_⟩;rw [D2 V,hacc];simp
 have h1:=A9 ht;rw [s9 V] at hacc;clear ht h1 hk hl;subst hacc;refine Ex.J1 (λk T H=>∃(i:Nat) (acc:List I4),T=[.any,.ptr 0 0,.any,A8 1 encS acc,.any,.any,.any,.d (Z i),.any,.any,.any,.any]/\H=[.cells (c.enc.map .d)]/\i+k=O c.F4/\acc=c.j7.map cI.name++c.views.map Vw.name++c.idxs.map iL.name++(c.F4.take i).map iI.name) ?_ (k:=O c.F4) ⟨0,c.j7.map cI.name++c.views.map Vw.name++c.idxs.map iL.name,rfl,rfl,U,U⟩;rintro k _ _ ⟨i,acc,rfl,rfl,hk,hacc⟩;have hl:O acc=0+O c.j7+O c.views+O c.idxs+i:=by rw [hacc];simp;omega
 repeat' (first|refine gy ?_|refine ft (λht=>?_) λht=>?_|refine ⟨_,rfl,?_⟩|fail)
 .have h1:=A5 ht
  refine kk ⟨i+1,acc++[(Y c.F4 i).name],rfl,rfl,V,?_⟩;rw [D2 V,hacc];simp
 have h1:=A9 ht;rw [s9 V] at hacc;clear ht h1 hk hl;subst hacc;refine Ex.J1 (λk T H=>∃(i:Nat) (acc:List I4),T=[.any,.ptr 0 0,.any,A8 1 encS acc,.any,.any,.any,.any,.d (Z i),.any,.any,.any]/\H=[.cells (c.enc.map .d)]/\i+k=O c.H8/\acc=c.j7.map cI.name++c.views.map Vw.name++c.idxs.map iL.name++c.F4.map iI.name++(c.H8.take i).map kG.name) ?_ (k:=O c.H8) ⟨0,c.j7.map cI.name++c.views.map Vw.name++c.idxs.map iL.name++c.F4.map iI.name,rfl,rfl,U,U⟩;rintro k _ _ ⟨i,acc,rfl,rfl,hk,hacc⟩;have hl:O acc=0+O c.j7+O c.views+O c.idxs+O c.F4+i:=by rw [hacc];simp;omega
 repeat' (first|refine gy ?_|refine ft (λht=>?_) λht=>?_|refine ⟨_,rfl,?_⟩|fail)
 .have h1:=A5 ht
  refine kk ⟨i+1,acc++[(Y c.H8 i).name],rfl,rfl,V,?_⟩;rw [D2 V,hacc];simp
 have h1:=A9 ht;rw [s9 V] at hacc;clear ht h1 hk hl;subst hacc;refine Ex.J1 (λk T H=>∃(i:Nat) (acc:List I4),T=[.any,.ptr 0 0,.any,A8 1 encS acc,.any,.any,.any,.any,.any,.d (Z i),.any,.any]/\H=[.cells (c.enc.map .d)]/\i+k=O c.J5/\acc=c.j7.map cI.name++c.views.map Vw.name++c.idxs.map iL.name++c.F4.map iI.name++c.H8.map kG.name++(c.J5.take i).map kA.name) ?_ (k:=O c.J5) ⟨0,c.j7.map cI.name++c.views.map Vw.name++c.idxs.map iL.name++c.F4.map iI.name++c.H8.map kG.name,rfl,rfl,U,U⟩;rintro k _ _ ⟨i,acc,rfl,rfl,hk,hacc⟩;have hl:O acc=0+O c.j7+O c.views+O c.idxs+O c.F4+O c.H8+i:=by rw [hacc];simp;omega
 repeat' (first|refine gy ?_|refine ft (λht=>?_) λht=>?_|refine ⟨_,rfl,?_⟩|fail)
 .have h1:=A5 ht
  refine kk ⟨i+1,acc++[(Y c.J5 i).name],rfl,rfl,V,?_⟩;rw [D2 V,hacc];simp
 have h1:=A9 ht;rw [s9 V] at hacc;clear ht h1 hk hl;subst hacc;refine Ex.J1 (λk T H=>∃(i:Nat) (acc:List I4),T=[.any,.ptr 0 0,.any,A8 1 encS acc,.any,.any,.any,.any,.any,.any,.d (Z i),.any]/\H=[.cells (c.enc.map .d)]/\i+k=O c.J9/\acc=c.j7.map cI.name++c.views.map Vw.name++c.idxs.map iL.name++c.F4.map iI.name++c.H8.map kG.name++c.J5.map kA.name++(c.J9.take i).map nr.name) ?_ (k:=O c.J9) ⟨0,c.j7.map cI.name++c.views.map Vw.name++c.idxs.map iL.name++c.F4.map iI.name++c.H8.map kG.name++c.J5.map kA.name,rfl,rfl,U,U⟩;rintro k _ _ ⟨i,acc,rfl,rfl,hk,hacc⟩;have hl:O acc=0+O c.j7+O c.views+O c.idxs+O c.F4+O c.H8+O c.J5+i:=by rw [hacc];simp;omega
 repeat' (first|refine gy ?_|refine ft (λht=>?_) λht=>?_|refine ⟨_,rfl,?_⟩|fail)
 .have h1:=A5 ht
  refine kk ⟨i+1,acc++[(Y c.J9 i).name],rfl,rfl,V,?_⟩;rw [D2 V,hacc];simp
 have h1:=A9 ht;rw [s9 V] at hacc;clear ht h1 hk hl;subst hacc;refine Ex.J1 (λk T H=>∃(i:Nat) (acc:List I4),T=[.any,.ptr 0 0,.any,A8 1 encS acc,.any,.any,.any,.any,.any,.any,.any,.d (Z i)]/\H=[.cells (c.enc.map .d)]/\i+k=O c.K6/\acc=c.j7.map cI.name++c.views.map Vw.name++c.idxs.map iL.name++c.F4.map iI.name++c.H8.map kG.name++c.J5.map kA.name++c.J9.map nr.name++(c.K6.take i).map nq.name) ?_ (k:=O c.K6) ⟨0,c.j7.map cI.name++c.views.map Vw.name++c.idxs.map iL.name++c.F4.map iI.name++c.H8.map kG.name++c.J5.map kA.name++c.J9.map nr.name,rfl,rfl,U,U⟩;rintro k _ _ ⟨i,acc,rfl,rfl,hk,hacc⟩;have hl:O acc=0+O c.j7+O c.views+O c.idxs+O c.F4+O c.H8+O c.J5+O c.J9+i:=by rw [hacc];simp;omega
 repeat' (first|refine gy ?_|refine ft (λht=>?_) λht=>?_|refine ⟨_,rfl,?_⟩|fail)
 .have h1:=A5 ht
  refine kk ⟨i+1,acc++[(Y c.K6 i).name],rfl,rfl,V,?_⟩;rw [D2 V,hacc];simp
 have h1:=A9 ht;rw [s9 V] at hacc;clear ht h1 hk hl;subst hacc;simp [j4,x3,A8,p7.names]
def p7.sn (c:p7):List I4:=c.j7.map cI.name++c.views.map Vw.name
def p7.ns (c:p7):Nat:=O c.j7+O c.views
def I5 (name:I4):List I4->Nat->Int
 |[],_=> -1
 |x::r,i=>if K7 x name then i else I5 name r (i+1)
def F0 (c:p7)(name:I4)(n:Nat):Int:=I5 name ((p7.sn c).take n) 0
theorem S3 (c:p7):O (p7.sn c)=p7.ns c:=by simp [p7.sn,p7.ns]
def qy (c:p7){i:Nat}(h:i<p7.ns c):Y c.names i=Y (p7.sn c) i:=by
 have h1:c.names=p7.sn c++(c.idxs.map iL.name++c.F4.map iI.name++c.H8.map kG.name++c.J5.map kA.name++c.J9.map nr.name++c.K6.map nq.name):=by simp [p7.names,p7.sn]
 have h2:i<O (p7.sn c):=by grind [S3]
 grind [A7,List.getElem_append_left]
theorem P6 (c:p7):p7.ns c<=O c.names:=by simp [p7.names,p7.ns]
def Bz (c:p7)(name:I4)(n:Nat)(hf:c.dP)(hn:n<=100000):Pf A 112 [cat c,.d (.str name),.d (Z n)] (.d (Z (F0 c name n))):=by
 have hl:=P6 c;have hc:p7.ns c<=2000:=by obtain ⟨f0,f1,_⟩:=hf;grind [p7.ns]
 have hs:=S3 c;have oV :O c.j7+O c.views<=2000:=hc;refine Pf.go 4 ?_;refine gc (YF c hf) ?_;refine Ex.gV (λk T H=>∃(i:Nat) (v w:c7),T=[v,.d (.str name),.d (Z n),.ptr 0 0,w,.d (x3 encS c.names),.d (Z i)]/\H=[.cells (c.enc.map .d)]/\i+k=p7.ns c/\i<=n/\F0 c name n=I5 name (((p7.sn c).take n).drop i) i) M ?_ (k:=p7.ns c) ⟨0,_,_,rfl,rfl,U,V,by simp [F0]⟩;rintro k _ _ ⟨i,v,w,rfl,rfl,hk,hin,hi⟩;refine Ex.nT ?_;refine Ex.seq ?_;refine tB (D0 i n&&D0 i (p7.ns c)) ?_ (λh1=>?_) (λh1=>?_)
 .repeat' (first|refine gx ?_|refine fk (h1:=λhw=>?_) (h2:=λhw=>?_)|refine ⟨rfl,rfl,_,rfl,?_⟩|fail)
  all_goals grind [j4,p7.ns,s4,r7,o6,E2]
 .simp [c9] at h1
  have h2:=A5 h1.1;have h3:=A5 h1.2;have h4:((p7.sn c).take n).drop i=Y (p7.sn c) i::((p7.sn c).take n).drop (i+1):=by
   grind [C5,A7]
  rw [h4,<- qy c V] at hi
  repeat' (first|refine gx ?_|refine Ex.test (Rn.text ?_)|refine ⟨_,rfl,λht=>?_,λht=>?_⟩|refine ⟨_,rfl,?_⟩|fail)
  .grind [I5,j4,Z]
  .exact kk ⟨i+1,_,_,rfl,rfl,V,V,by grind [I5]⟩
 .repeat' (first|refine gx ?_|refine ⟨_,rfl,?_⟩|fail)
  grind [p7.sn,n5,s4,I5,j4,Z]
def dm (c:p7)(name:I4)(n:Nat):Int:=F0 c name (min n (O c.j7))
def Nn (c:p7)(name:I4)(n:Nat)(hf:c.dP)(hn:n<=100000):Pf A 207 [cat c,.d (.str name),.d (Z n)] (.d (Z (dm c name n))):=by
 refine Pf.gr 2 ?_;have e:(if (O c.j7:Int)<(n:Int) then (O c.j7:Int) else (n:Int))=((min n (O c.j7):Nat):Int):=by split<;>omega
 refine cl (Bz c name (min n (O c.j7)) hf V) ?_ (ha:=by rw [Z,<- e];rfl);refine gr ?_;exact ⟨_,rfl,rfl⟩
def S0 (t:cI):Int->List Int->Bool
 |_,[]=>W
 |p,o::r=>D0 p o&&D0 o (O t.o4)&& !(K7 (Y t.o4 o.toNat).space []&&K7 (Y t.o4 o.toNat).refs [])&&S0 t o r
def Q0 (t:cI):c7:= .agg (t.enc.map .d)
def Yj (t:cI)(xs:List Int)(hx:O xs<=1000)(hc:O t.o4<=1000):Pf A 245 [Q0 t,.d (ints xs)] (.d (.bool (S0 t (-1) xs))):=by
 refine Pf.gr 3 ?_;refine Ex.J1 (λk T H=>∃(i:Nat) (p:Int),T=[.any,.d (ints xs),.ptr 0 0,.any,.d (Z i)]/\H=[.cells (t.enc.map .d)]/\i+k=O xs/\p=(if i=0 then -1 else Y xs (i - 1))/\ -1<=p/\S0 t (-1) xs=S0 t p (xs.drop i)) ?_ (k:=O xs) ⟨0, -1,rfl,rfl,U,U,V,U⟩;rintro k _ _ ⟨i,p,rfl,rfl,hk,hp,hp1,hi⟩;refine Ex.seq ?_;refine tb (D0 i (O xs)) (λh1=>?_) (λh1=>?_)
 .have h2:=A5 h1
  rw [C5 V] at hi;have hq:(((i:Int) - 1).toNat)=i - 1:=V
  refine gr ?_;refine tB (!(p9 (Y xs i) 0 (O t.o4 - 1))||(D0 0 i&&U4 (Y xs i) (Y xs (i - 1)))||(K7 (Y t.o4 (Y xs i).toNat).space []&&K7 (Y t.o4 (Y xs i).toNat).refs [])) ?_ (λh3=>?_) (λh3=>?_)
  .repeat' (first|refine cl (oP _ _ _) ?_|refine gx ?_|refine fk (h1:=λhw=>?_) (h2:=λhw=>?_)|refine ⟨rfl,rfl,_,rfl,?_⟩|fail)
   all_goals first|(simp [*,j4,hq];done)|(simp_all [j4,hq];done)
  .refine gr ?_
   refine ⟨_,rfl,?_⟩;have h5:(D0 p (Y xs i)&&D0 (Y xs i) (O t.o4)&& !(K7 (Y t.o4 (Y xs i).toNat).space []&&K7 (Y t.o4 (Y xs i).toNat).refs []))=F:=by
    rcases hS:(K7 (Y t.o4 (Y xs i).toNat).space []&&K7 (Y t.o4 (Y xs i).toNat).refs []) with _|_
    .simp [hS,p9,s4,r7] at h3 ⊢
     by_cases h0:i=0
     .simp [h0] at hp h3 ⊢;omega
     .simp [h0] at hp;omega
    .simp
   rw [hi,S0,h5];simp [j4]
  .refine gr ?_
   have h5:D0 p (Y xs i)=W/\D0 (Y xs i) (O t.o4)=W/\(K7 (Y t.o4 (Y xs i).toNat).space []&&K7 (Y t.o4 (Y xs i).toNat).refs [])=F:=by
    simp only [B2] at h3;refine ⟨?_,?_,h3.2⟩
    .simp [p9,s4,r7] at h3 ⊢
     by_cases h0:i=0
     .simp [h0] at hp h3 ⊢;omega
     .simp [h0] at hp;omega
    .simp [p9,s4,r7] at h3 ⊢
     omega
   refine kk ⟨i+1,Y xs i,rfl,rfl,V,U,?_,?_⟩
   .have:=A5 h5.1;omega
   .rw [hi,S0,h5.1,h5.2.1,h5.2.2]
    simp
 .refine gr ?_
  have h2:=A9 h1;rw [n5 V] at hi;exact ⟨_,rfl,by simp [hi,S0,j4]⟩
def V7 (c:p7)(n i:Nat):Int :=
 if !K1 (Y (Y c.j7 n).o4 i).name||(!K7 (Y (Y c.j7 n).o4 i).space []&& !K1 (Y (Y c.j7 n).o4 i).space) then 3
 else if ((Y c.j7 n).o4.take i).any λy=>K7 y.name (Y (Y c.j7 n).o4 i).name then 4
 else if !K7 (Y (Y c.j7 n).o4 i).refs []&&D0 (dm c (Y (Y c.j7 n).o4 i).refs n) 0 then 7
 else if (!s7 (Y (Y c.j7 n).o4 i).type 1&& !s7 (Y (Y c.j7 n).o4 i).type 2)||(U4 0 (dm c (Y (Y c.j7 n).o4 i).refs n)&& !K7 (Y (Y c.j7 n).o4 i).refs []&& !s7 (Y (Y c.j7 (dm c (Y (Y c.j7 n).o4 i).refs n).toNat).o4 0).type (Y (Y c.j7 n).o4 i).type) then 5
 else if (!K7 (Y (Y c.j7 n).o4 i).space []&& !K7 (Y (Y c.j7 n).o4 i).refs [])|| !S0 (Y c.j7 n) (-1) (Y (Y c.j7 n).o4 i).C6|| !p9 (Y (Y c.j7 n).o4 i).cr 0 1||(s7 (O (Y (Y c.j7 n).o4 i).C6) 0&&(!s7 (Y (Y c.j7 n).o4 i).cr 0|| !s7 (Y (Y c.j7 n).o4 i).gL 0)) then 1
 else if !p9 (Y (Y c.j7 n).o4 i).gL 0 1048576||(!s7 (Y c.j7 n).ay 0&&D0 (Y c.j7 n).ay (Y (Y c.j7 n).o4 i).gL)||(s7 i 0&&D0 0 (O (Y (Y c.j7 n).o4 i).C6)&& !s7 (Y c.j7 n).erase 1) then 1
 else if (!K7 (Y (Y c.j7 n).o4 i).refs []&&D0 0 (O (Y (Y c.j7 (dm c (Y (Y c.j7 n).o4 i).refs n).toNat).o4 0).C6))&& !hasB (Y (Y c.j7 n).o4 i).C6 i then 1
 else 0
theorem dR (name:I4):∀(l:List I4) (i:Nat),I5 name l i= -1\/((i:Int)<=I5 name l i/\I5 name l i<i+O l)
 |[],i=>Or.inl rfl
 |x::r,i=>by
  simp only [I5];split
  .simp;omega
  .rcases dR name r (i+1) with h|h
   .exact Or.inl h
   .simp;omega
def GJ (c:p7)(name:I4)(n:Nat):dm c name n= -1\/(0<=dm c name n/\dm c name n<n/\dm c name n<O c.j7):=by
 unfold dm F0
 rcases dR name ((p7.sn c).take (min n (O c.j7))) 0 with h|h
 .exact Or.inl h
 .simp at h
  omega
set_option maxHeartbeats 8000000 in
def ay5 (c:p7)(n i:Nat)(hf:c.dP)(hn:n<O c.j7)(hi:i<O (Y c.j7 n).o4)(hl:O (Y c.j7 n).o4<=1000)(ho:O (Y (Y c.j7 n).o4 i).C6<=1000)(hp:∀m,m<n->0<O (Y c.j7 m).o4):Pf A 199 [cat c,.d (Z n),.d (Z i)] (.d (Z (V7 c n i))):=by
 have hn2:n<=1000:=by obtain ⟨f0,_⟩:=hf;omega
 have hb:dm c (Y (Y c.j7 n).o4 i).refs n= -1\/(0<=dm c (Y (Y c.j7 n).o4 i).refs n/\dm c (Y (Y c.j7 n).o4 i).refs n<n/\dm c (Y (Y c.j7 n).o4 i).refs n<O c.j7/\0<O (Y c.j7 (dm c (Y (Y c.j7 n).o4 i).refs n).toNat).o4):=by
  rcases GJ c (Y (Y c.j7 n).o4 i).refs n with h|h
  .exact Or.inl h
  .exact Or.inr ⟨h.1,h.2.1,h.2.2,hp _ V⟩
 refine Pf.gr 6 ?_;refine tc (!K1 (Y (Y c.j7 n).o4 i).name||(!K7 (Y (Y c.j7 n).o4 i).space []&& !K1 (Y (Y c.j7 n).o4 i).space)) Uu (λh1=>?_) (λh1=>?_)
 .refine gr ?_
  exact ⟨_,rfl,by simp only [j4,Z,V7,h1,j6,if_true,if_false]⟩
 refine gr ?_;refine Ex.J1 (λk T H=>∃(j:Nat),T=[.any,.d (Z n),.d (Z i),.ptr 0 0,.any,.ptr 1 0,.ptr 2 0,.d (Z j),.any]/\H=[.cells (c.enc.map .d),.cells ((Y c.j7 n).enc.map .d),.cells ((Y (Y c.j7 n).o4 i).enc.map .d)]/\j+k=i/\(((Y c.j7 n).o4.take i).any λy=>K7 y.name (Y (Y c.j7 n).o4 i).name)=((((Y c.j7 n).o4.take i).drop j).any λy=>K7 y.name (Y (Y c.j7 n).o4 i).name)) ?_ (k:=i) ⟨0,rfl,rfl,U,U⟩;rintro k _ _ ⟨j,rfl,rfl,hk,hj⟩;refine Ex.seq ?_;refine tb (D0 j i) (λh8=>?_) (λh8=>?_)
 .have h9:=A5 h8
  rw [iH V V] at hj
  repeat' (first|refine gy ?_|refine ft (λht=>?_) λht=>?_|refine ⟨_,rfl,?_⟩|fail)
  .have h2:(((Y c.j7 n).o4.take i).any λy=>K7 y.name (Y (Y c.j7 n).o4 i).name)=W:=by rw [hj];simp [ht]
   simp only [j4,Z,V7,h1,h2,j6,if_true,if_false]
  .exact kk ⟨j+1,rfl,rfl,V,by rw [hj];simp [ht]⟩
 have h9:=A9 h8;rw [n5 D] at hj;have h2:(((Y c.j7 n).o4.take i).any λy=>K7 y.name (Y (Y c.j7 n).o4 i).name)=F:=by rw [hj];rfl
 clear hj h8 hk;refine gc (Nn c (Y (Y c.j7 n).o4 i).refs n hf V) ?_;refine tb (!K7 (Y (Y c.j7 n).o4 i).refs []&&D0 (dm c (Y (Y c.j7 n).o4 i).refs n) 0) (λh3=>?_) (λh3=>?_)
 .refine gr ?_
  exact ⟨_,rfl,by simp only [j4,Z,V7,h1,h2,h3,j6,if_true,if_false]⟩
 have ZB :(!K7 (Y (Y c.j7 n).o4 i).refs [])=W->0<=dm c (Y (Y c.j7 n).o4 i).refs n:=λh=>by
  simp only [h,Bool.true_and] at h3;exact A9 h3
 have h3q:(!K7 (Y (Y c.j7 n).o4 i).refs [])=W->0<O (Y c.j7 (dm c (Y (Y c.j7 n).o4 i).refs n).toNat).o4:=λh=>by have:=ZB h;omega
 refine tb ((!s7 (Y (Y c.j7 n).o4 i).type 1&& !s7 (Y (Y c.j7 n).o4 i).type 2)||(U4 0 (dm c (Y (Y c.j7 n).o4 i).refs n)&& !K7 (Y (Y c.j7 n).o4 i).refs []&& !s7 (Y (Y c.j7 (dm c (Y (Y c.j7 n).o4 i).refs n).toNat).o4 0).type (Y (Y c.j7 n).o4 i).type)) (λh4=>?_) (λh4=>?_)
 .refine gr ?_
  exact ⟨_,rfl,by simp only [j4,Z,V7,h1,h2,h3,h4,j6,if_true,if_false]⟩
 refine tc ((!K7 (Y (Y c.j7 n).o4 i).space []&& !K7 (Y (Y c.j7 n).o4 i).refs [])|| !S0 (Y c.j7 n) (-1) (Y (Y c.j7 n).o4 i).C6|| !p9 (Y (Y c.j7 n).o4 i).cr 0 1||(s7 (O (Y (Y c.j7 n).o4 i).C6) 0&&(!s7 (Y (Y c.j7 n).o4 i).cr 0|| !s7 (Y (Y c.j7 n).o4 i).gL 0))) (And.intro (Yj (Y c.j7 n) (Y (Y c.j7 n).o4 i).C6 ho hl) oP) (λh5=>?_) (λh5=>?_)
 .refine gr ?_
  exact ⟨_,rfl,by simp only [j4,Z,V7,h1,h2,h3,h4,h5,j6,if_true,if_false]⟩
 refine tc (!p9 (Y (Y c.j7 n).o4 i).gL 0 1048576||(!s7 (Y c.j7 n).ay 0&&D0 (Y c.j7 n).ay (Y (Y c.j7 n).o4 i).gL)||(s7 i 0&&D0 0 (O (Y (Y c.j7 n).o4 i).C6)&& !s7 (Y c.j7 n).erase 1)) oP (λh6=>?_) (λh6=>?_)
 .refine gr ?_
  exact ⟨_,rfl,by simp only [j4,Z,V7,h1,h2,h3,h4,h5,h6,j6,if_true,if_false]⟩
 refine tB ((!K7 (Y (Y c.j7 n).o4 i).refs []&&D0 0 (O (Y (Y c.j7 (dm c (Y (Y c.j7 n).o4 i).refs n).toNat).o4 0).C6))&& !hasB (Y (Y c.j7 n).o4 i).C6 i) ?_ (λh7=>?_) (λh7=>?_)
 .repeat' (first|refine cl (ay3 (Y (Y c.j7 n).o4 i).C6 i ho) ?_|refine Xo (hi:=⟨ZB hw,V⟩) (h2:=?_)|refine ixN (hi:=h3q hw) (h2:=?_)|refine gx ?_|refine fq (λhw=>?_) λhw=>?_|refine ⟨rfl,rfl,_,rfl,?_⟩|refine ⟨rfl,rfl⟩|fail)
  all_goals exact cc
 .refine gr ?_
  exact ⟨_,rfl,by simp only [j4,Z,V7,h1,h2,h3,h4,h5,h6,h7,j6,if_true,if_false]⟩
 refine gr ?_;exact ⟨_,rfl,by simp only [j4,Z,V7,h1,h2,h3,h4,h5,h6,h7,j6,if_true,if_false]⟩
def bF (c:p7)(n:Nat):Nat->Nat->Int
 |0,_=>0
 |k+1,i=>if !s7 (V7 c n i) 0 then V7 c n i else bF c n k (i+1)
def bQ (c:p7)(n:Nat):Int :=
 if !p9 (O (Y c.j7 n).o4) 1 8|| !p9 (Y c.j7 n).erase 0 1|| !p9 (Y c.j7 n).ay 0 1048576 then 1 else bF c n (O (Y c.j7 n).o4) 0
structure p7.small (c:p7):Prop where
 dP:c.dP
 o4:∀n,n<O c.j7->O (Y c.j7 n).o4<=1000
 C6:∀n i,n<O c.j7->i<O (Y c.j7 n).o4->O (Y (Y c.j7 n).o4 i).C6<=1000
def ax9 (c:p7)(n:Nat)(hf:p7.small c)(hn:n<O c.j7)(hp:∀m,m<n->0<O (Y c.j7 m).o4):Pf A 144 [cat c,.d (Z n)] (.d (Z (bQ c n))):=by
 have hl:=hf.o4 n hn;refine Pf.gr 5 ?_;refine tc (!p9 (O (Y c.j7 n).o4) 1 8|| !p9 (Y c.j7 n).erase 0 1|| !p9 (Y c.j7 n).ay 0 1048576) oP (λh1=>?_) (λh1=>?_)
 .refine gr ?_
  exact ⟨_,rfl,by simp only [j4,Z,bQ,h1,if_true]⟩
 refine gr ?_;refine Ex.Y1 (λk T H=>∃(i:Nat) (v w z:c7),T=[v,.d (Z n),.ptr 0 0,w,.ptr 1 0,.d (Z i),z]/\H=[.cells (c.enc.map .d),.cells ((Y c.j7 n).enc.map .d)]/\i+k=O (Y c.j7 n).o4/\bQ c n=bF c n k i) ?_ (k:=O (Y c.j7 n).o4) ⟨0,_,_,_,rfl,rfl,U,by simp only [bQ,h1,j6,if_false]⟩;rintro k _ _ ⟨i,v,w,z,rfl,rfl,hk,hi⟩;refine Ex.nT ?_;refine Ex.seq ?_;refine tb (D0 i (O (Y c.j7 n).o4)) (λh2=>?_) (λh2=>?_)
 .have h3:=A5 h2
  obtain ⟨k,rfl⟩:∃k',k=k' +1:=⟨k - 1,V⟩
  repeat' (first|refine cl (ay5 c n i hf.dP hn V hl (hf.C6 n i hn V) hp) ?_|refine gy ?_|refine ft (λht=>?_) λht=>?_|refine ⟨_,rfl,?_⟩|fail)
  .simp [j4,hi,bF,ht]
  .exact ⟨k,V,i+1,_,_,_,rfl,rfl,V,by simp [hi,bF,ht]⟩
 .have h3:=A9 h2
  obtain rfl:k=0:=V
  refine gr ?_;exact ⟨_,rfl,by simp [j4,hi,bF,Z]⟩
def iF (v:Vw):Bool:=(!K7 v.right []||s7 (O v.on) 0)&&U4 (O v.on) 8&&U4 (O v.items+O v.E3) 8
def Z6 (v:Vw):Bool :=
 if s7 v.kind 2 then !K7 v.right []&&s7 (O v.on) 0&&s7 (O v.wh) 0&&s7 (O v.items) 0&&s7 (O v.E3) 0&& !v.distinct
 else if s7 v.kind 0 then !(s7 (O v.items) 0||D0 0 (O v.E3))&&iF v
 else !(s7 (O v.E3) 0||v.distinct)&&iF v
def vw (v:Vw):c7:= .agg (v.enc.map .d)
set_option maxHeartbeats 8000000 in
def ay6 (c:p7)(v:Vw)(h0:O v.items<=1000)(h1:O v.E3<=1000):Pf A 200 [cat c,vw v] (.d (.bool (Z6 v))):=by
 refine Pf.go 3 ?_
 repeat' (first|refine gy ?_|refine fq (λhw=>?_) λhw=>?_|refine ⟨_,rfl,?_⟩|fail)
 all_goals first|(simp [*,j4,Z6,iF];done)|(simp_all [j4,Z6,iF];done)|(simp_all [j4,Z6,iF,s4,r7,o6,E2];done)|(simp_all [j4,Z6,iF,s4,r7,o6,E2]<;>omega)
def L8 (l r:List Int):List (Int×Int)->Int
 |[]=>0
 |p::ps=>if !p9 p.1 0 (O l - 1)|| !p9 p.2 0 (O r - 1) then 3 else if !s7 (Y l p.1.toNat) (Y r p.2.toNat) then 5 else L8 l r ps
def ay8 (on:List (Int×Int))(l r:List Int)(h0:O on<=1000)(h1:O l<=100000)(h2:O r<=100000):Pf A 202 [.d (x3 (λp=>[Z p.1,Z p.2]) on),.d (ints l),.d (ints r)] (.d (Z (L8 l r on))):=by
 refine Pf.gr 2 ?_;refine Ex.J1 (λk T H=>∃(i:Nat),T=[.d (x3 (λp=>[Z p.1,Z p.2]) on),.d (ints l),.d (ints r),.any,.d (Z i)]/\H=[]/\i+k=O on/\L8 l r on=L8 l r (on.drop i)) ?_ (k:=O on) ⟨0,rfl,rfl,U,U⟩;rintro k _ _ ⟨i,rfl,rfl,hk,hi⟩;refine Ex.seq ?_;refine tl i (O on) (λh4=>?_) (λh4=>?_)
 .rw [C5 V] at hi
  refine gr ?_;refine tc (!p9 (Y on i).1 0 (O l - 1)|| !p9 (Y on i).2 0 (O r - 1)) oP (λh5=>?_) (λh5=>?_)
  .refine gr ?_
   exact ⟨_,rfl,by simp only [j4,Z,hi,L8,h5,if_true]⟩
  have h6:=h5;simp [p9,r7] at h6
  repeat' (first|refine gy ?_|refine ft (λht=>?_) λht=>?_|refine ⟨_,rfl,?_⟩|fail)
  .simp only [j4,Z,hi,L8,h5,ht,j6,if_true,if_false]
  .exact kk ⟨i+1,rfl,rfl,V,by simp only [hi,L8,h5,ht,j6,if_false]⟩
 .rw [n5 V] at hi
  refine gr ?_;exact ⟨_,rfl,by simp [j4,hi,L8,Z]⟩
end Go.Proofs.YtibjocmpkoepoaaGreat

