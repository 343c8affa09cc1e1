import Derived.Test.YtibjocmpkoepoaaGreatD0
set_option linter.all false
open Bool renaming and_eq_true→c7,false_eq_true→j4,not_eq_false'→E4,not_eq_true'→p6,or_eq_false_iff→J3,true→W,false→F
open List renaming append_assoc→D3,cons_append→A8,drop_of_length_le→n9,length_append→n5,length_cons→p8,length_nil→y9,map_cons→K0,length→O
open Nat renaming lt_or_ge→A5
open Option renaming some→J,none→K
namespace Go.Proofs.YtibjocmpkoepoaaGreat
open Go.A1 Go.A1.S
attribute [local irreducible] Rx Ry Rn Ex Pf
set_option maxHeartbeats 4000000 in
def aN0 (t:Y8):Pf A 292 [trm t] (.d (.bool (BV t))):=by
 refine Pf.go 2 ?_
 repeat' (first|refine cl (ad7 _) ?_|refine cl (bx0 _ _ _) ?_|refine gy ?_|refine fq (λhw=>?_) λhw=>?_|refine ⟨_,rfl,?_⟩|fail)
 all_goals simp only [j3,BV,fc,zeroV, *]
 all_goals simp [*,o8,D2,Bool.and_comm,Bool.and_left_comm,Bool.and_assoc]
 done
def jm (e:List Y8)(p:Nat):Nat×Nat:=match Q2 (O e+1) (e.drop p) with
 |none=>(0,p)
 |some (a,r)=>(a.dep,O e - O r)
def wN (e:List Y8)(k m p:Nat):Option (Nat×Nat):=match gD (Q2 (O e)) k (e.drop p) with
 |none=>K
 |some (l,r)=>J (max m (oU l),O e - O r)
def Jt (a:bS):0<a.dep:=by
 cases a;simp [bS.dep]
def Ap (e:List Y8)(p:Nat)(hp:0<p):(jm e p=(0,p)/\Q2 (O e) (e.drop p)=K)\/∃(q:Nat) (a:bS),jm e p=(a.dep,q)/\q<=O e/\p<=q/\Q2 (O e) (e.drop p)=J (a,e.drop q):=by
 have h0:Q2 (O e+1) (e.drop p)=Q2 (O e) (e.drop p):=Ka D U;simp only [jm,h0]
 rcases uT e (O e) p with ⟨h1,h2⟩|⟨q,h1,h3,h4,a,h2⟩
 .exact Or.inl ⟨by rw [h2],h2⟩
 .refine Or.inr ⟨q,a,?_,h3,h4,h2⟩
  rw [h2];simp only [List.length_drop]
  congr 1
  omega
def QW {e:List Y8}{k m p:Nat}(hp:0<p):wN e (k+1) m p=if (jm e p).1=0 then K else wN e k (max m (jm e p).1) (jm e p).2:=by
 rcases Ap e p hp with ⟨h1,h2⟩|⟨q,a,h1,_,_,h2⟩
 .simp only [wN,gD,h2,h1,if_true]
 .have:=Jt a
  rw [h1,if_neg (by simp only;omega)];simp only [wN,gD,h2];cases gD (Q2 (O e)) k (e.drop q) with
  |none=>rfl
  |some x =>
   obtain ⟨l,r⟩:=x;simp only [oU,Option.some.injEq,Prod.mk.injEq,and_true];omega
def QX {e:List Y8}{p:Nat}(hp:p<O e)(h:BV (Y e p)=W):jm e p=match wN e (qD (Y e p).op).toNat 0 (p+1) with
  |none=>(0,p)
  |some (d,q)=>(d+1,q):=by
 simp only [jm,wN];rw [E0 hp,Q2,h,if_pos rfl];cases gD (Q2 (O e)) (qD (Y e p).op).toNat (e.drop (p+1)) with
 |none=>rfl
 |some x =>
  obtain ⟨l,r⟩:=x;simp [bS.dep]
def DG {e:List Y8}{p:Nat}(h:O e<=p\/BV (Y e p)=F):jm e p=(0,p):=by
 simp only [jm]
 rcases h with h|h
 .rw [n9 h]
  rfl
 .rcases A5 p (O e) with hp|hp
  .rw [E0 hp,Q2,h,if_neg U]
  .rw [n9 hp]
   rfl
set_option maxHeartbeats 4000000 in
def bw7 (e:List Y8)(he:O e<=1000):∀m p:Nat,O e<=p+m->p<=2000->Pf A 283 [gn e,.d (Z p)] (.tuple [.d (Z (jm e p).1),.d (Z (jm e p).2)]):=by
 intro m
 induction m with
 |zero =>
  intro p hm hp;refine Pf.gr 8 ?_;refine tc (W) aN0 (λh1=>?_) (λh1=>?_)
  .refine gr ?_
   exact ⟨_,rfl,by rw [DG (Or.inl V)];rfl⟩
  .cases h1
 |succ m ih =>
  intro p hm hp;refine Pf.gr 8 ?_;refine tc (cg (O e) p|| !BV (Y e p)) aN0 (λh1=>?_) (λh1=>?_)
  .refine gr ?_
   refine ⟨_,rfl,?_⟩;rw [DG]
   .rfl
   .simp only [Bool.or_eq_true,p6] at h1
    rcases h1 with h|h
    .have:=qo h;left;omega
    .exact Or.inr h
  simp only [J3,E4] at h1;have h2:=Am h1.1;have h3:=sW (Y e p).op;have h4:0<=qD (Y e p).op:=by
   have:=h1.2;simp only [BV,c7,p6] at this;exact B5 this.1
  repeat' (first|refine clT (ad7 _) (h2:=?_)|refine gx ?_|fail)
  refine Ex.aY (λk T H=>∃(i q d:Nat) (v2 v3 v6 v7:c8),T=[gn e,.d (Z p),v2,v3,.d (Z d),.d (Z q),v6,v7,.d (Z (qD (Y e p).op)),.d (Z i)]/\H=[]/\(i:Int)+k=qD (Y e p).op/\p<q/\q<=O e/\d<=2000/\jm e p=(match wN e k d q with|none=>(0,p)|some (d,q)=>(d+1,q))) ?_ (k:=(qD (Y e p).op).toNat) ⟨0,p+1,0,_,_,_,_,rfl,rfl,V,V,V,V,QX V h1.2⟩;rintro k _ _ ⟨i,q,d,v2,v3,v6,v7,rfl,rfl,hk,hpq,hq,hd,hi⟩;refine Ex.nT ?_;refine Ex.seq ?_;refine tl i (qD (Y e p).op) (λh6=>?_) (λh6=>?_)
  .obtain ⟨k,rfl⟩:∃k',k=k' +1:=⟨k - 1,V⟩
   rw [QW V] at hi;have h7:=ih q V V
   rcases Ap e q V with ⟨e1,_⟩|⟨q',a,e1,e2,e3,e4⟩
   .rw [e1] at hi h7
    rw [if_pos rfl] at hi;refine gc h7 ?_;refine tb (W) (λh8=>?_) (λh8=>?_)
    .refine gr ?_
     exact ⟨_,rfl,by rw [hi];rfl⟩
    .cases h8
   .rw [e1] at hi h7
    have e5:=Jt a;have e6:a.dep<=1000:=by
     have:=(V9 _ _ _ _ e4).2.2;omega
    rw [if_neg (by simp only;omega)] at hi;refine gc h7 ?_;refine tb (F) (λh8=>?_) (λh8=>?_)
    .cases h8
    refine gr ?_;have e7:(if (a.dep:Int)>(d:Int) then (a.dep:Int) else (d:Int))=((max d a.dep:Nat):Int):=by split<;>omega
    exact ⟨k,V,i+1,q',max d a.dep,_,_,_,_,by rw [<- e7];rfl,rfl,V,V,e2,V,hi⟩
  .obtain rfl:k=0:=V
   refine gr ?_;refine ⟨_,rfl,?_⟩;have h8:wN e 0 d q=J (d,q):=by
    simp only [wN,gD,oU,List.length_drop,Option.some.injEq,Prod.mk.injEq];omega
   rw [hi,h8];rfl
set_option maxHeartbeats 2000000 in
def ad6 (e:List Y8)(he:O e<=1000):Pf A 262 [gn e] (.d (.bool (Z4 e))):=by
 have h0:=bw7 e he (O e) 0 V V;refine Pf.go 3 ?_
 repeat' (first|refine df ?_|refine gx ?_|fail)
 refine tb (F6 64 (O e)) (λh1=>?_) (λh1=>?_)
 .refine gr ?_
  refine ⟨_,rfl,?_⟩;have:=C4 h1;have:Z4 e=F:=by simp [Z4,s8];omega
  rw [this];rfl
 have h2:=B5 h1;have h3:Z4 e=(F6 0 (jm e 0).1&&cg (jm e 0).1 16&&u7 (jm e 0).2 (O e)):=by
  rw [iO];have h4:(iP e).isSome=(decide (1<=O e)&&(match Q2 16 e with|some (_,[])=>W|_=>F)):=by
   unfold iP
   by_cases h5:1<=O e
   .have:(cg 1 (O e)&&cg (O e) 64)=W:=by simp [s8];omega
    rw [this,if_pos rfl];simp only [h5,decide_true,Bool.true_and];split<;>simp_all
   .have:(cg 1 (O e)&&cg (O e) 64)=F:=by simp [s8];omega
    rw [this,if_neg U];simp [h5]
  rw [h4];simp only [jm,List.drop_zero];cases h5:Q2 (O e+1) e with
  |none =>
   have h6:Q2 16 e=K:=by
    cases h7:Q2 16 e with
    |none=>rfl
    |some x =>
     obtain ⟨a,r⟩:=x;obtain ⟨g1,g2,g3⟩:=V9 16 e a r h7;have:=qP a;have hl:O a.flat<=O e:=by rw [g1];simp
     have:=aA a (O e+1) r g2 V;rw [<- g1,h5] at this;cases this
   simp [h6,s9]
  |some x =>
   obtain ⟨a,r⟩:=x;obtain ⟨g1,g2,g3⟩:=V9 _ e a r h5;have hp:=Jt a;have hf:=kP a;have hl:O a.flat+O r=O e:=by rw [g1];simp
   by_cases h7:a.dep<=16
   .have:=aA a 16 r g2 h7
    rw [<- g1] at this;rw [this];cases r with
    |nil =>
     have e1:decide (1<=O e)=W:=by simp at hl ⊢;omega
     have e2:F6 0 a.dep=W:=by simp only [s9,decide_eq_true_eq];omega
     have e3:cg a.dep 16=W:=by simp only [s8,decide_eq_true_eq];omega
     have e4:u7 ((O e - O ([]:List Y8):Nat):Int) (O e)=W:=by simp [o8]
     simp only [e1,e2,e3,e4,Bool.and_self]
    |cons t r =>
     have e4:u7 ((O e - O (t::r):Nat):Int) (O e)=F:=by simp only [o8,beq_eq_false_iff_ne];simp only [p8] at hl ⊢;omega
     simp only [e4,Bool.and_false]
   .have h8:Q2 16 e=K:=by
     cases h9:Q2 16 e with
     |none=>rfl
     |some y =>
      obtain ⟨b,s⟩:=y;obtain ⟨k1,k2,k3⟩:=V9 16 e b s h9;have hfb:=qP b;have pH:O b.flat<=O e:=by rw [k1];simp
      have:=aA b (O e+1) s k2 V;rw [<- k1,h5] at this;cases this;exact absurd k3 h7
    rw [h8];simp [s9,s8,o8];omega
 rw [h3]
 repeat' (first|refine cl (h0) ?_|refine gy ?_|refine fq (λhw=>?_) λhw=>?_|refine ⟨_,rfl,?_⟩|fail)
 all_goals exact cc
set_option maxHeartbeats 16000000 in
def bw8 (ty:List Int)(t:Y8)(a b c:Int)(hc:t.op≠2\/(0<=t.col/\t.col<O ty)):Pf A 291 [trm t,.agg [.d (Z a),.d (Z b),.d (Z c)],.d (ints ty)] (.tuple [.d (Z (Kg ty t a b c).1),.d (.bool (Kg ty t a b c).2)]):=by
 refine Pf.go 10 ?_
 repeat' (first|refine gy ?_|refine fq (λhw=>?_) λhw=>?_|refine ⟨_,rfl,?_⟩|fail)
 all_goals simp only [j3,Kg, *,K0,List.map_nil,c8.K7]
 all_goals simp [*,Z]
def three (ts:List Int):List c8:=[.d (Z (Y ts 0)),.d (Z (Y ts 1)),.d (Z (Y ts 2))]
set_option maxHeartbeats 8000000 in
def bw4 (ty:List Int)(uZ:eu ty=W)(e:List Y8)(he:O e<=1000):∀(n:Nat) (a:bS) (p:Nat) (r:List Y8),O a.flat<=n->e.drop p=a.flat++r->a.wf ->
  Pf A 281 [gn e,.d (Z p),.d (ints ty)] (.tuple [.d (Z (a.typ ty).1),.d (Z (if u7 (a.typ ty).2 0 then ((p+O a.flat:Nat):Int) else 0)),.d (Z (a.typ ty).2)]):=by
 intro n
 induction n with
 |zero=>intro a p r h;have:=kP a;omega
 |succ n ih =>
 rintro ⟨t,l⟩ p r hn hp hw;simp only [bS.flat] at hn hp ⊢;have hpe:O (t::P6 l)+O r+p=O e:=by
  have:=congrArg List.length hp;have h2:p<O e:=by
   rcases A5 p (O e) with h|h
   .exact h
   .rw [n9 h] at hp;cases hp
  simp at this ⊢;omega
 have Du:p<O e:=by simp at hpe;omega
 have h0:Y e p=t/\e.drop (p+1)=P6 l++r:=by
  rw [E0 Du] at hp;simp only [A8,List.cons.injEq] at hp;exact hp
 obtain ⟨h0,hp1⟩:=h0;obtain ⟨hok,har,Dv⟩:=hw;have hl3:O l<=3:=by have:=sW t.op;omega
 have aT2:qD t.op=O l:=by
  simp only [BV,c7,p6] at hok;have:=B5 hok.1;omega
 refine Pf.gr 14 ?_;rw [h0];refine gr ?_;refine clT (ad7 t.op) (h2:=?_);rw [aT2];refine gr ?_;refine Ex.aY (λk T H=>∃(i q:Nat) (l1 l2:List bS) (ts:List Int) (v1 v3 v4 v5 v9 v10 v11 v12 v13 v14:c8),T=[gn e,v1,.d (ints ty),v3,v4,v5,.ptr 0 0,.d (Z q),.ptr 1 0,v9,v10,v11,v12,v13,v14,.d (Z (O l)),.d (Z i)]/\H=[.cells (t.enc.map .d),.cells (three ts)]/\i=O l1/\k=O l2/\l=l1++l2/\O ts=i/\(jv ty l).1=ts++(jv ty l2).1/\(jv ty l).2=(jv ty l2).2/\e.drop q=P6 l2++r/\q+O (P6 l2)=p+O (t::P6 l)) ?_ (k:=O l) ⟨0,p+1,[],l,[],_,_,_,_,_,_,_,_,_,_,rfl,by simp only [three,BU];rfl,rfl,rfl,rfl,rfl,rfl,rfl,hp1,D⟩;rintro k _ _ ⟨i,q,l1,l2,ts,v1,v3,v4,v5,v9,v10,v11,v12,v13,v14,rfl,rfl,Af,hk,hl,hts,e1,e2,hq,hqe⟩;have hlen:O l=O l1+O l2:=by rw [hl];simp
 refine Ex.nT ?_;refine Ex.seq ?_;refine tl i (O l) (λh4=>?_) (λh4=>?_)
 .cases l2 with
  |nil=>simp at hlen;omega
  |cons a l2 =>
  have ha:a∈l:=by rw [hl];simp
  have jG:=ih a q (P6 l2++r) (by have:=Dm ha;simp at hn;omega) (by rw [hq];simp [P6]) (RO Dv ha);simp only [jv] at e1 e2;simp only [P6,n5] at hqe;refine gc jG ?_;refine tb (!u7 (a.typ ty).2 0) (λh5=>?_) (λh5=>?_)
  .simp only [p6] at h5
   simp only [h5,j4,if_false] at e1 e2;refine gr ?_;refine ⟨_,rfl,?_⟩;simp [j3,bS.typ,e2,h5,c8.K7,Z]
  .simp only [E4] at h5
   simp only [h5,if_true] at e1 e2 ⊢;refine gr ?_;have h6:e.drop (q+O a.flat)=P6 l2++r:=by
    rw [<- List.drop_drop,hq,P6,D3,List.drop_left]
   have h7:ts=[]\/(∃x,ts=[x])\/∃x y,ts=[x,y]:=by
    match ts,hts with
    |[],_=>exact Or.inl rfl
    |[x],_=>exact Or.inr (Or.inl ⟨x,rfl⟩)
    |[x,y],_=>exact Or.inr (Or.inr ⟨x,y,rfl⟩)
    |x::y::z::w,h=>simp at h;omega
   rcases h7 with rfl|⟨x,rfl⟩|⟨x,y,rfl⟩
   .simp only [y9] at hts
    refine ipp (e:=(i:Int)) (o2:=0) 0 V rfl (by decide) ?_;unfold three;refine gr ?_;exact ⟨O l2,by simp at hk;omega,i+1,q+O a.flat,l1++[a],l2,[(a.typ ty).1],_,_,_,_,_,_,_,_,_,_,rfl,by simp only [three,BU,ay,wU],by simp [Af],rfl,by simp [hl],D,by simpa using e1,e2,h6,V⟩
   .simp only [p8,y9] at hts
    refine ipp (e:=(i:Int)) (o2:=1) 1 V rfl (by decide) ?_;unfold three;refine gr ?_;exact ⟨O l2,by simp at hk;omega,i+1,q+O a.flat,l1++[a],l2,[x,(a.typ ty).1],_,_,_,_,_,_,_,_,_,_,rfl,by simp only [three,BU,ay,wU],by simp [Af],rfl,by simp [hl],D,by simpa using e1,e2,h6,V⟩
   .simp only [p8,y9] at hts
    refine ipp (e:=(i:Int)) (o2:=2) 2 V rfl (by decide) ?_;unfold three;refine gr ?_;exact ⟨O l2,by simp at hk;omega,i+1,q+O a.flat,l1++[a],l2,[x,y,(a.typ ty).1],_,_,_,_,_,_,_,_,_,_,rfl,by simp only [three,BU,ay,wU],by simp [Af],rfl,by simp [hl],D,by simpa using e1,e2,h6,V⟩
 .cases l2 with
  |cons a l2=>simp at hlen;omega
  |nil =>
  simp only [jv,List.append_nil] at e1 e2;have PS:O ts=O l:=by simp at hlen;omega
  have htg:∀x,x∈ts->good x:=by rw [<- e1];exact zD uZ l Dv
  refine gr ?_;refine tb (u7 t.op 2&&cg (O ty) t.col) (λh5=>?_) (λh5=>?_)
  .simp only [c7] at h5
   have h6:u7 t.op 1=F:=by have:=eE h5.1;simp [o8];omega
   refine gr ?_;refine ⟨_,rfl,?_⟩;simp [j3,bS.typ,e2,h5,h6,EN,c8.K7,Z,o8]
  have WE:t.op≠2\/(0<=t.col/\t.col<O ty):=by
   cases h6:u7 t.op 2 with
   |false=>exact Or.inl (wB h6)
   |true =>
    right;have h7:u7 t.op 1=F:=by have:=eE h6;simp [o8];omega
    simp only [h6,Bool.true_and] at h5;simp only [BV,fc,h6,h7,if_true,j4,if_false,c7] at hok;exact ⟨qo hok.2.2,Am h5⟩
  have bY4:=aG1 (ty:=ty) (t:=t) (ts:=ts) htg (λh=>by simpa [h] using h5)
   (λh=>by have h8:=eE h;have h9:=aT2;unfold qD at h9;rw [h8] at h9;simp [o8,s8] at h9;omega)
   (λh=>by have h8:=eE h;have h9:=aT2;unfold qD at h9;rw [h8] at h9;simp [o8,s8] at h9;omega)
  have hz:u7 (jv ty l).2 0=W:=by rw [e2];simp [o8]
  have WL:(bS.node t l).typ ty=if (Kg ty t (Y ts 0) (Y ts 1) (Y ts 2)).2 then ((Kg ty t (Y ts 0) (Y ts 1) (Y ts 2)).1,0) else (0,5):=by
   simp only [bS.typ,hz,if_true,e1,bY4]
  unfold three;refine gc (bw8 ty t _ _ _ WE) ?_;rw [WL];cases h6:(Kg ty t (Y ts 0) (Y ts 1) (Y ts 2)).2 with
  |false =>
   refine tb (W) (λh7=>?_) (λh7=>?_)
   .refine gr ?_
    refine ⟨_,rfl,?_⟩;simp [j3,c8.K7,Z,o8]
   .cases h7
  |true =>
   refine tb (F) (λh7=>?_) (λh7=>?_)
   .cases h7
   refine gr ?_;refine ⟨_,rfl,?_⟩;simp only [P6,y9,Nat.add_zero] at hqe;simp [j3,c8.K7,Z,o8,hqe]
def AM {e:List Y8}{a:bS}(h:iP e=J a):e=a.flat/\a.wf/\a.dep<=16:=by
 unfold iP at h;split at h
 .split at h
  next b h4=>
   obtain ⟨e1,e2,e3⟩:=V9 16 e b [] h4;simp_all
  .cases h
 .cases h
set_option maxHeartbeats 2000000 in
def ad4 (e:List Y8)(ty:List Int)(he:O e<=1000)(ht:O ty<=100000):Pf A 255 [gn e,.d (ints ty)] (pair (O6 e ty)):=by
 refine Pf.gr 8 ?_;refine tB (!Z4 e) ?_ (λh1=>?_) (λh1=>?_)
 .repeat' (first|refine cl (ad6 e he) ?_|refine gx ?_|refine fq (λhw=>?_) λhw=>?_|refine ⟨rfl,rfl,_,rfl,?_⟩|rfl|fail)
 .refine gr ?_
  refine ⟨_,rfl,?_⟩;simp_all [iO,iP,O6,j3,pair,Z,c8.K7]
 rw [iO] at h1;cases h2:iP e with
 |none=>simp_all
 |some a =>
 have h3:=AM h2;refine gr ?_;refine Ex.ru (λk T H=>∃(i:Nat) (v w x y z:c8),T=[gn e,.d (ints ty),v,w,x,y,z,.d (ints ty),.d (Z (O ty)),.d (Z i)]/\H=[]/\i+k=O ty/\eu ty=eu (ty.drop i)) M ?_ (k:=O ty) ⟨0,_,_,_,_,_,rfl,rfl,U,U⟩;rintro k _ _ ⟨i,v,w,x,y,z,rfl,rfl,hk,hi⟩;refine Ex.nT ?_;refine Ex.seq ?_;refine tl i (O ty) (λh5=>?_) (λh5=>?_)
 .rw [E0 V] at hi
  refine gr ?_;refine tb (!u7 (Y ty i) 1&& !u7 (Y ty i) 2) (λh6=>?_) (λh6=>?_)
  .refine gr ?_
   refine ⟨_,rfl,?_⟩;simp_all [eu,c7,p6,O6,j3,pair,Z,c8.K7]
  .refine gr ?_
   refine kk ⟨i+1,_,_,_,_,_,rfl,rfl,V,?_⟩
   grind [eu,u7,Y]
 .rw [n9 V] at hi
  have hg:eu ty=W:=by rw [hi];rfl
  have h6:=bw4 ty hg e he (O e) a 0 [] M M h3.2.1;refine gc h6 ?_;refine ⟨_,rfl,?_⟩
  grind [O6,j3,pair,c8.K7]
def bw5 (n:Int):Pf A 288 [.d (.int .u8 n)] (.d (.bool (dN n))):=by
 refine Pf.go 1 ?_
 repeat' (first|refine gy ?_|refine fq (λhw=>?_) λhw=>?_|refine ⟨_,rfl,?_⟩|fail)
 all_goals simp_all [j3,dN]
def bw6 (n:Int):Pf A 289 [.d (.int .u8 n)] (.d (.bool (mP n))):=by
 refine Pf.go 1 ?_
 repeat' (first|refine gy ?_|refine fq (λhw=>?_) λhw=>?_|refine ⟨_,rfl,?_⟩|fail)
 all_goals simp_all [j3,mP]
def PU (first:Bool):M3->Nat
 |[]=>0
 |c::r=>if dN c.toNat||(!first&&(mP c.toNat||u7 c.toNat 95)) then PU F r+1 else 0
theorem aa8:∀(b:Bool) (s:M3),PU b s<=O s
 |_,[]=>by simp [PU]
 |b,c::r=>by
  have:=aa8 F r;simp only [PU];split<;>simp<;>omega
theorem Tp:∀s:M3,(PU F s==O s)=s.all λc=>pI c.toNat
 |[]=>rfl
 |c::r=>by
  have h1:=Tp r;have h2:=aa8 F r;have hc:pI c.toNat=(dN c.toNat||mP c.toNat||u7 c.toNat 95):=rfl;rw [List.all_cons,<- h1,hc];simp only [PU,Bool.not_false,Bool.true_and];cases dN c.toNat<;>cases mP c.toNat<;>cases u7 c.toNat 95<;>simp
def aa9 (s:M3):M8 s=(!P8 s []&&cg (O s) 16&&u7 (PU W s) (O s)):=by
 cases s with
 |nil=>simp [M8,D2]
 |cons c r =>
  have h1:=Tp r;have h3:P8 (c::r) []=F:=by simp [D2]
  have hc:pI c.toNat=(dN c.toNat||mP c.toNat||u7 c.toNat 95):=rfl;simp only [M8,h3,Bool.not_false,Bool.true_and,PU,Bool.not_true,Bool.false_and,Bool.or_false];rw [List.all_cons,<- h1,hc];cases h:dN c.toNat with
  |false=>simp [o8];intros;omega
  |true =>
   simp only [if_true,Bool.and_true,Bool.true_or,Bool.true_and];have e1:F6 (O r) 16=cg (O (c::r)) 16:=by
    simp only [s9,s8,p8];exact decide_eq_decide.2 V
   have e2:(PU F r==O r)=u7 (PU F r+1:Nat) (O (c::r)):=by
    simp only [o8,p8];rw [Bool.eq_iff_iff];simp only [beq_iff_eq];omega
   rw [e1,e2]
set_option maxHeartbeats 2000000 in
def bw3 (s:M3)(hs:O s<=100000):Pf A 276 [.d (.str s)] (.d (Z (PU W s))):=by
 refine Pf.gr 2 ?_;refine Ex.T9 (λk T H=>∃(i:Nat),T=[.d (.str s),.any,.d (Z i)]/\H=[]/\i+k=O s/\PU W s=i+PU (!F6 0 i) (s.drop i)) ?_ (k:=O s) ⟨0,rfl,rfl,U,by simp [s9]⟩;rintro k _ _ ⟨i,rfl,rfl,hk,hi⟩;refine Ex.seq ?_;refine tc (F6 i (O s)&&(dN (Y s i).toNat||(F6 0 i&&(mP (Y s i).toNat||u7 (Y s i).toNat 95)))) (And.intro bw5 bw6) (λh1=>?_) (λh1=>?_)
 .simp only [c7] at h1
  have h2:=C4 h1.1;rw [E0 V,PU,Bool.not_not,h1.2,if_pos rfl] at hi;refine gr ?_;refine kk ⟨i+1,rfl,rfl,V,?_⟩;have h3:F6 0 ((i+1:Nat):Int)=W:=by simp only [s9,decide_eq_true_eq];omega
  rw [hi,h3,Bool.not_true];omega
 .refine gr ?_
  refine ⟨_,rfl,?_⟩;have h3:PU (!F6 0 i) (s.drop i)=0:=by
   rcases A5 i (O s) with h|h
   .have h4:F6 i (O s)=W:=by simp [s9];omega
    rw [h4,Bool.true_and] at h1;rw [E0 h,PU,Bool.not_not,h1];rfl
   .rw [n9 h];rfl
  rw [hi,h3];rfl
def ca0 {s:M3}(h:cg (O s) 16=W):O s<=100000:=by have:=qo h;omega
def ad3 (s:M3):Pf A 247 [.d (.str s)] (.d (.bool (M8 s))):=by
 rw [aa9];refine Pf.go 1 ?_
 repeat' (first|refine cl (bw3 s (ca0 hw)) ?_|refine gy ?_|refine fq (λhw=>?_) λhw=>?_|refine ⟨_,rfl,?_⟩|fail)
 all_goals exact cc
end Go.Proofs.YtibjocmpkoepoaaGreat

