import Derived.Test.YtibjocmpkoepoaaGreatD0
set_option linter.all false
open Bool renaming and_eq_true→c9,false_eq_true→j5,not_eq_false'→C5,not_eq_true'→o5,or_eq_false_iff→D5,true→W,false→F
open List renaming append_assoc→K2,cons_append→x6,drop_of_length_le→n5,length_append→l5,length_cons→o8,length_nil→B1,map_cons→G4,length→O
open Nat renaming lt_or_ge→A7
open Option renaming some→J,none→K
namespace Go.Proofs.YtibjocmpkoepoaaGreat
open Go.A5 Go.A5.S
attribute [local irreducible] Rx Ry Rn Ex Pf
set_option maxHeartbeats 4000000 in
def af3 (t:X0):Pf A 292 [trm t] (.d (.bool (Aj t))):=by
 refine Pf.go 2 ?_
 repeat' (first|refine cl (VB _) ?_|refine cl (aL2 _ _ _) ?_|refine gy ?_|refine fq (λhw=>?_) λhw=>?_|refine ⟨_,rfl,?_⟩|fail)
 all_goals simp only [j4,Aj,eo,zeroV, *]
 all_goals simp [*,o9,I9,Bool.and_comm,Bool.and_left_comm,Bool.and_assoc]
 done
def iE (e:List X0)(p:Nat):Nat×Nat:=match P0 (O e+1) (e.drop p) with
 |none=>(0,p)
 |some (a,r)=>(a.dep,O e - O r)
def uC (e:List X0)(k m p:Nat):Option (Nat×Nat):=match ga (P0 (O e)) k (e.drop p) with
 |none=>K
 |some (l,r)=>J (max m (nG l),O e - O r)
def GX (a:bF):0<a.dep:=by
 cases a;simp [bF.dep]
def xZ (e:List X0)(p:Nat)(hp:0<p):(iE e p=(0,p)/\P0 (O e) (e.drop p)=K)\/∃(q:Nat) (a:bF),iE e p=(a.dep,q)/\q<=O e/\p<=q/\P0 (O e) (e.drop p)=J (a,e.drop q):=by
 have h0:P0 (O e+1) (e.drop p)=P0 (O e) (e.drop p):=Hz D U;simp only [iE,h0]
 rcases sY e (O e) p with ⟨h1,h2⟩|⟨q,h1,h3,h4,a,h2⟩
 .exact Or.inl ⟨by rw [h2],h2⟩
 .refine Or.inr ⟨q,a,?_,h3,h4,h2⟩
  rw [h2];simp only [List.length_drop]
  congr 1
  omega
def Nq {e:List X0}{k m p:Nat}(hp:0<p):uC e (k+1) m p=if (iE e p).1=0 then K else uC e k (max m (iE e p).1) (iE e p).2:=by
 rcases xZ e p hp with ⟨h1,h2⟩|⟨q,a,h1,_,_,h2⟩
 .simp only [uC,ga,h2,h1,if_true]
 .have:=GX a
  rw [h1,if_neg (by simp only;omega)];simp only [uC,ga,h2];cases ga (P0 (O e)) k (e.drop q) with
  |none=>rfl
  |some x =>
   obtain ⟨l,r⟩:=x;simp only [nG,Option.some.injEq,Prod.mk.injEq,and_true];omega
def Nr {e:List X0}{p:Nat}(hp:p<O e)(h:Aj (Y e p)=W):iE e p=match uC e (nA (Y e p).op).toNat 0 (p+1) with
  |none=>(0,p)
  |some (d,q)=>(d+1,q):=by
 simp only [iE,uC];rw [D8 hp,P0,h,if_pos rfl];cases ga (P0 (O e)) (nA (Y e p).op).toNat (e.drop (p+1)) with
 |none=>rfl
 |some x =>
  obtain ⟨l,r⟩:=x;simp [bF.dep]
def Bv {e:List X0}{p:Nat}(h:O e<=p\/Aj (Y e p)=F):iE e p=(0,p):=by
 simp only [iE]
 rcases h with h|h
 .rw [n5 h]
  rfl
 .rcases A7 p (O e) with hp|hp
  .rw [D8 hp,P0,h,if_neg U]
  .rw [n5 hp]
   rfl
set_option maxHeartbeats 4000000 in
def aK9 (e:List X0)(he:O e<=1000):∀m p:Nat,O e<=p+m->p<=2000->Pf A 283 [gW e,.d (Z p)] (.tuple [.d (Z (iE e p).1),.d (Z (iE e p).2)]):=by
 intro m
 induction m with
 |zero =>
  intro p hm hp;refine Pf.gr 8 ?_;refine tc (W) af3 (λh1=>?_) (λh1=>?_)
  .refine gr ?_
   exact ⟨_,rfl,by rw [Bv (Or.inl V)];rfl⟩
  .cases h1
 |succ m ih =>
  intro p hm hp;refine Pf.gr 8 ?_;refine tc (aH (O e) p|| !Aj (Y e p)) af3 (λh1=>?_) (λh1=>?_)
  .refine gr ?_
   refine ⟨_,rfl,?_⟩;rw [Bv]
   .rfl
   .simp only [Bool.or_eq_true,o5] at h1
    rcases h1 with h|h
    .have:=kM h;left;omega
    .exact Or.inr h
  simp only [D5,C5] at h1;have h2:=rR h1.1;have h3:=qL (Y e p).op;have h4:0<=nA (Y e p).op:=by
   have:=h1.2;simp only [Aj,c9,o5] at this;exact D4 this.1
  repeat' (first|refine clT (VB _) (h2:=?_)|refine gx ?_|fail)
  refine Ex.fh (λk T H=>∃(i q d:Nat) (v2 v3 v6 v7:c7),T=[gW e,.d (Z p),v2,v3,.d (Z d),.d (Z q),v6,v7,.d (Z (nA (Y e p).op)),.d (Z i)]/\H=[]/\(i:Int)+k=nA (Y e p).op/\p<q/\q<=O e/\d<=2000/\iE e p=(match uC e k d q with|none=>(0,p)|some (d,q)=>(d+1,q))) ?_ (k:=(nA (Y e p).op).toNat) ⟨0,p+1,0,_,_,_,_,rfl,rfl,V,V,V,V,Nr V h1.2⟩;rintro k _ _ ⟨i,q,d,v2,v3,v6,v7,rfl,rfl,hk,hpq,hq,hd,hi⟩;refine Ex.nT ?_;refine Ex.seq ?_;refine tl i (nA (Y e p).op) (λh6=>?_) (λh6=>?_)
  .obtain ⟨k,rfl⟩:∃k',k=k' +1:=⟨k - 1,V⟩
   rw [Nq V] at hi;have h7:=ih q V V
   rcases xZ e q V with ⟨e1,_⟩|⟨q',a,e1,e2,e3,e4⟩
   .rw [e1] at hi h7
    rw [if_pos rfl] at hi;refine gc h7 ?_;refine tb (W) (λh8=>?_) (λh8=>?_)
    .refine gr ?_
     exact ⟨_,rfl,by rw [hi];rfl⟩
    .cases h8
   .rw [e1] at hi h7
    have e5:=GX a;have e6:a.dep<=1000:=by
     have:=(V2 _ _ _ _ e4).2.2;omega
    rw [if_neg (by simp only;omega)] at hi;refine gc h7 ?_;refine tb (F) (λh8=>?_) (λh8=>?_)
    .cases h8
    refine gr ?_;have e7:(if (a.dep:Int)>(d:Int) then (a.dep:Int) else (d:Int))=((max d a.dep:Nat):Int):=by split<;>omega
    exact ⟨k,V,i+1,q',max d a.dep,_,_,_,_,by rw [<- e7];rfl,rfl,V,V,e2,V,hi⟩
  .obtain rfl:k=0:=V
   refine gr ?_;refine ⟨_,rfl,?_⟩;have h8:uC e 0 d q=J (d,q):=by
    simp only [uC,ga,nG,List.length_drop,Option.some.injEq,Prod.mk.injEq];omega
   rw [hi,h8];rfl
set_option maxHeartbeats 2000000 in
def VA (e:List X0)(he:O e<=1000):Pf A 262 [gW e] (.d (.bool (aW e))):=by
 have h0:=aK9 e he (O e) 0 V V;refine Pf.go 3 ?_
 repeat' (first|refine df ?_|refine gx ?_|fail)
 refine tb (F0 64 (O e)) (λh1=>?_) (λh1=>?_)
 .refine gr ?_
  refine ⟨_,rfl,?_⟩;have:=C8 h1;have:aW e=F:=by simp [aW,x8];omega
  rw [this];rfl
 have h2:=D4 h1;have h3:aW e=(F0 0 (iE e 0).1&&aH (iE e 0).1 16&&x5 (iE e 0).2 (O e)):=by
  rw [gX];have h4:(gY e).isSome=(decide (1<=O e)&&(match P0 16 e with|some (_,[])=>W|_=>F)):=by
   unfold gY
   by_cases h5:1<=O e
   .have:(aH 1 (O e)&&aH (O e) 64)=W:=by simp [x8];omega
    rw [this,if_pos rfl];simp only [h5,decide_true,Bool.true_and];split<;>simp_all
   .have:(aH 1 (O e)&&aH (O e) 64)=F:=by simp [x8];omega
    rw [this,if_neg U];simp [h5]
  rw [h4];simp only [iE,List.drop_zero];cases h5:P0 (O e+1) e with
  |none =>
   have h6:P0 16 e=K:=by
    cases h7:P0 16 e with
    |none=>rfl
    |some x =>
     obtain ⟨a,r⟩:=x;obtain ⟨g1,g2,g3⟩:=V2 16 e a r h7;have:=pH a;have hl:O a.flat<=O e:=by rw [g1];simp
     have:=aq a (O e+1) r g2 V;rw [<- g1,h5] at this;cases this
   simp [h6,A1]
  |some x =>
   obtain ⟨a,r⟩:=x;obtain ⟨g1,g2,g3⟩:=V2 _ e a r h5;have hp:=GX a;have hf:=jQ a;have hl:O a.flat+O r=O e:=by rw [g1];simp
   by_cases h7:a.dep<=16
   .have:=aq a 16 r g2 h7
    rw [<- g1] at this;rw [this];cases r with
    |nil =>
     have e1:decide (1<=O e)=W:=by simp at hl ⊢;omega
     have e2:F0 0 a.dep=W:=by simp only [A1,decide_eq_true_eq];omega
     have e3:aH a.dep 16=W:=by simp only [x8,decide_eq_true_eq];omega
     have e4:x5 ((O e - O ([]:List X0):Nat):Int) (O e)=W:=by simp [o9]
     simp only [e1,e2,e3,e4,Bool.and_self]
    |cons t r =>
     have e4:x5 ((O e - O (t::r):Nat):Int) (O e)=F:=by simp only [o9,beq_eq_false_iff_ne];simp only [o8] at hl ⊢;omega
     simp only [e4,Bool.and_false]
   .have h8:P0 16 e=K:=by
     cases h9:P0 16 e with
     |none=>rfl
     |some y =>
      obtain ⟨b,s⟩:=y;obtain ⟨k1,k2,k3⟩:=V2 16 e b s h9;have hfb:=pH b;have ov:O b.flat<=O e:=by rw [k1];simp
      have:=aq b (O e+1) s k2 V;rw [<- k1,h5] at this;cases this;exact absurd k3 h7
    rw [h8];simp [A1,x8,o9];omega
 rw [h3]
 repeat' (first|refine cl (h0) ?_|refine gy ?_|refine fq (λhw=>?_) λhw=>?_|refine ⟨_,rfl,?_⟩|fail)
 all_goals exact cc
set_option maxHeartbeats 16000000 in
def aL0 (ty:List Int)(t:X0)(a b c:Int)(hc:t.op≠2\/(0<=t.col/\t.col<O ty)):Pf A 291 [trm t,.agg [.d (Z a),.d (Z b),.d (Z c)],.d (ints ty)] (.tuple [.d (Z (HJ ty t a b c).1),.d (.bool (HJ ty t a b c).2)]):=by
 refine Pf.go 10 ?_
 repeat' (first|refine gy ?_|refine fq (λhw=>?_) λhw=>?_|refine ⟨_,rfl,?_⟩|fail)
 all_goals simp only [j4,HJ, *,G4,List.map_nil,c7.K9]
 all_goals simp [*,Z]
def three (ts:List Int):List c7:=[.d (Z (Y ts 0)),.d (Z (Y ts 1)),.d (Z (Y ts 2))]
set_option maxHeartbeats 8000000 in
def aK6 (ty:List Int)(tP:dA ty=W)(e:List X0)(he:O e<=1000):∀(n:Nat) (a:bF) (p:Nat) (r:List X0),O a.flat<=n->e.drop p=a.flat++r->a.wf ->
  Pf A 281 [gW e,.d (Z p),.d (ints ty)] (.tuple [.d (Z (a.typ ty).1),.d (Z (if x5 (a.typ ty).2 0 then ((p+O a.flat:Nat):Int) else 0)),.d (Z (a.typ ty).2)]):=by
 intro n
 induction n with
 |zero=>intro a p r h;have:=jQ a;omega
 |succ n ih =>
 rintro ⟨t,l⟩ p r hn hp hw;simp only [bF.flat] at hn hp ⊢;have hpe:O (t::O2 l)+O r+p=O e:=by
  have:=congrArg List.length hp;have h2:p<O e:=by
   rcases A7 p (O e) with h|h
   .exact h
   .rw [n5 h] at hp;cases hp
  simp at this ⊢;omega
 have uy:p<O e:=by simp at hpe;omega
 have h0:Y e p=t/\e.drop (p+1)=O2 l++r:=by
  rw [D8 uy] at hp;simp only [x6,List.cons.injEq] at hp;exact hp
 obtain ⟨h0,hp1⟩:=h0;obtain ⟨hok,har,Mq⟩:=hw;have hl3:O l<=3:=by have:=qL t.op;omega
 have al9:nA t.op=O l:=by
  simp only [Aj,c9,o5] at hok;have:=D4 hok.1;omega
 refine Pf.gr 14 ?_;rw [h0];refine gr ?_;refine clT (VB t.op) (h2:=?_);rw [al9];refine gr ?_;refine Ex.fh (λk T H=>∃(i q:Nat) (l1 l2:List bF) (ts:List Int) (v1 v3 v4 v5 v9 v10 v11 v12 v13 v14:c7),T=[gW e,v1,.d (ints ty),v3,v4,v5,.ptr 0 0,.d (Z q),.ptr 1 0,v9,v10,v11,v12,v13,v14,.d (Z (O l)),.d (Z i)]/\H=[.cells (t.enc.map .d),.cells (three ts)]/\i=O l1/\k=O l2/\l=l1++l2/\O ts=i/\(iH ty l).1=ts++(iH ty l2).1/\(iH ty l).2=(iH ty l2).2/\e.drop q=O2 l2++r/\q+O (O2 l2)=p+O (t::O2 l)) ?_ (k:=O l) ⟨0,p+1,[],l,[],_,_,_,_,_,_,_,_,_,_,rfl,by simp only [three,Ah];rfl,rfl,rfl,rfl,rfl,rfl,rfl,hp1,D⟩;rintro k _ _ ⟨i,q,l1,l2,ts,v1,v3,v4,v5,v9,v10,v11,v12,v13,v14,rfl,rfl,Df,hk,hl,hts,e1,e2,hq,hqe⟩;have hlen:O l=O l1+O l2:=by rw [hl];simp
 refine Ex.nT ?_;refine Ex.seq ?_;refine tl i (O l) (λh4=>?_) (λh4=>?_)
 .cases l2 with
  |nil=>simp at hlen;omega
  |cons a l2 =>
  have ha:a∈l:=by rw [hl];simp
  have iD:=ih a q (O2 l2++r) (by have:=Bf ha;simp at hn;omega) (by rw [hq];simp [O2]) (NT Mq ha);simp only [iH] at e1 e2;simp only [O2,l5] at hqe;refine gc iD ?_;refine tb (!x5 (a.typ ty).2 0) (λh5=>?_) (λh5=>?_)
  .simp only [o5] at h5
   simp only [h5,j5,if_false] at e1 e2;refine gr ?_;refine ⟨_,rfl,?_⟩;simp [j4,bF.typ,e2,h5,c7.K9,Z]
  .simp only [C5] at h5
   simp only [h5,if_true] at e1 e2 ⊢;refine gr ?_;have h6:e.drop (q+O a.flat)=O2 l2++r:=by
    rw [<- List.drop_drop,hq,O2,K2,List.drop_left]
   have h7:ts=[]\/(∃x,ts=[x])\/∃x y,ts=[x,y]:=by
    match ts,hts with
    |[],_=>exact Or.inl rfl
    |[x],_=>exact Or.inr (Or.inl ⟨x,rfl⟩)
    |[x,y],_=>exact Or.inr (Or.inr ⟨x,y,rfl⟩)
    |x::y::z::w,h=>simp at h;omega
   rcases h7 with rfl|⟨x,rfl⟩|⟨x,y,rfl⟩
   .simp only [B1] at hts
    refine ipp (e:=(i:Int)) (o2:=0) 0 V rfl (by decide) ?_;unfold three;refine gr ?_;exact ⟨O l2,by simp at hk;omega,i+1,q+O a.flat,l1++[a],l2,[(a.typ ty).1],_,_,_,_,_,_,_,_,_,_,rfl,by simp only [three,Ah,T8,gp],by simp [Df],rfl,by simp [hl],D,by simpa using e1,e2,h6,V⟩
   .simp only [o8,B1] at hts
    refine ipp (e:=(i:Int)) (o2:=1) 1 V rfl (by decide) ?_;unfold three;refine gr ?_;exact ⟨O l2,by simp at hk;omega,i+1,q+O a.flat,l1++[a],l2,[x,(a.typ ty).1],_,_,_,_,_,_,_,_,_,_,rfl,by simp only [three,Ah,T8,gp],by simp [Df],rfl,by simp [hl],D,by simpa using e1,e2,h6,V⟩
   .simp only [o8,B1] at hts
    refine ipp (e:=(i:Int)) (o2:=2) 2 V rfl (by decide) ?_;unfold three;refine gr ?_;exact ⟨O l2,by simp at hk;omega,i+1,q+O a.flat,l1++[a],l2,[x,y,(a.typ ty).1],_,_,_,_,_,_,_,_,_,_,rfl,by simp only [three,Ah,T8,gp],by simp [Df],rfl,by simp [hl],D,by simpa using e1,e2,h6,V⟩
 .cases l2 with
  |cons a l2=>simp at hlen;omega
  |nil =>
  simp only [iH,List.append_nil] at e1 e2;have YI:O ts=O l:=by simp at hlen;omega
  have htg:∀x,x∈ts->good x:=by rw [<- e1];exact wZ tP l Mq
  refine gr ?_;refine tb (x5 t.op 2&&aH (O ty) t.col) (λh5=>?_) (λh5=>?_)
  .simp only [c9] at h5
   have h6:x5 t.op 1=F:=by have:=br h5.1;simp [o9];omega
   refine gr ?_;refine ⟨_,rfl,?_⟩;simp [j4,bF.typ,e2,h5,h6,Cm,c7.K9,Z,o9]
  have Jj:t.op≠2\/(0<=t.col/\t.col<O ty):=by
   cases h6:x5 t.op 2 with
   |false=>exact Or.inl (ot h6)
   |true =>
    right;have h7:x5 t.op 1=F:=by have:=br h6;simp [o9];omega
    simp only [h6,Bool.true_and] at h5;simp only [Aj,eo,h6,h7,if_true,j5,if_false,c9] at hok;exact ⟨kM hok.2.2,rR h5⟩
  have YR:=ZY (ty:=ty) (t:=t) (ts:=ts) htg (λh=>by simpa [h] using h5)
   (λh=>by have h8:=br h;have h9:=al9;unfold nA at h9;rw [h8] at h9;simp [o9,x8] at h9;omega)
   (λh=>by have h8:=br h;have h9:=al9;unfold nA at h9;rw [h8] at h9;simp [o9,x8] at h9;omega)
  have hz:x5 (iH ty l).2 0=W:=by rw [e2];simp [o9]
  have Si:(bF.node t l).typ ty=if (HJ ty t (Y ts 0) (Y ts 1) (Y ts 2)).2 then ((HJ ty t (Y ts 0) (Y ts 1) (Y ts 2)).1,0) else (0,5):=by
   simp only [bF.typ,hz,if_true,e1,YR]
  unfold three;refine gc (aL0 ty t _ _ _ Jj) ?_;rw [Si];cases h6:(HJ ty t (Y ts 0) (Y ts 1) (Y ts 2)).2 with
  |false =>
   refine tb (W) (λh7=>?_) (λh7=>?_)
   .refine gr ?_
    refine ⟨_,rfl,?_⟩;simp [j4,c7.K9,Z,o9]
   .cases h7
  |true =>
   refine tb (F) (λh7=>?_) (λh7=>?_)
   .cases h7
   refine gr ?_;refine ⟨_,rfl,?_⟩;simp only [O2,B1,Nat.add_zero] at hqe;simp [j4,c7.K9,Z,o9,hqe]
def yE {e:List X0}{a:bF}(h:gY e=J a):e=a.flat/\a.wf/\a.dep<=16:=by
 unfold gY at h;split at h
 .split at h
  next b h4=>
   obtain ⟨e1,e2,e3⟩:=V2 16 e b [] h4;simp_all
  .cases h
 .cases h
set_option maxHeartbeats 2000000 in
def Vx (e:List X0)(ty:List Int)(he:O e<=1000)(ht:O ty<=100000):Pf A 255 [gW e,.d (ints ty)] (pair (M8 e ty)):=by
 refine Pf.gr 8 ?_;refine tB (!aW e) ?_ (λh1=>?_) (λh1=>?_)
 .repeat' (first|refine cl (VA e he) ?_|refine gx ?_|refine fq (λhw=>?_) λhw=>?_|refine ⟨rfl,rfl,_,rfl,?_⟩|rfl|fail)
 .refine gr ?_
  refine ⟨_,rfl,?_⟩;simp_all [gX,gY,M8,j4,pair,Z,c7.K9]
 rw [gX] at h1;cases h2:gY e with
 |none=>simp_all
 |some a =>
 have h3:=yE h2;refine gr ?_;refine Ex.EM (λk T H=>∃(i:Nat) (v w x y z:c7),T=[gW e,.d (ints ty),v,w,x,y,z,.d (ints ty),.d (Z (O ty)),.d (Z i)]/\H=[]/\i+k=O ty/\dA ty=dA (ty.drop i)) M ?_ (k:=O ty) ⟨0,_,_,_,_,_,rfl,rfl,U,U⟩;rintro k _ _ ⟨i,v,w,x,y,z,rfl,rfl,hk,hi⟩;refine Ex.nT ?_;refine Ex.seq ?_;refine tl i (O ty) (λh5=>?_) (λh5=>?_)
 .rw [D8 V] at hi
  refine gr ?_;refine tb (!x5 (Y ty i) 1&& !x5 (Y ty i) 2) (λh6=>?_) (λh6=>?_)
  .refine gr ?_
   refine ⟨_,rfl,?_⟩;simp_all [dA,c9,o5,M8,j4,pair,Z,c7.K9]
  .refine gr ?_
   refine kk ⟨i+1,_,_,_,_,_,rfl,rfl,V,?_⟩
   grind [dA,x5,Y]
 .rw [n5 V] at hi
  have hg:dA ty=W:=by rw [hi];rfl
  have h6:=aK6 ty hg e he (O e) a 0 [] M M h3.2.1;refine gc h6 ?_;refine ⟨_,rfl,?_⟩
  grind [M8,j4,pair,c7.K9]
def aK7 (n:Int):Pf A 288 [.d (.int .u8 n)] (.d (.bool (ep n))):=by
 refine Pf.go 1 ?_
 repeat' (first|refine gy ?_|refine fq (λhw=>?_) λhw=>?_|refine ⟨_,rfl,?_⟩|fail)
 all_goals simp_all [j4,ep]
def aK8 (n:Int):Pf A 289 [.d (.int .u8 n)] (.d (.bool (nI n))):=by
 refine Pf.go 1 ?_
 repeat' (first|refine gy ?_|refine fq (λhw=>?_) λhw=>?_|refine ⟨_,rfl,?_⟩|fail)
 all_goals simp_all [j4,nI]
def Tu (first:Bool):K0->Nat
 |[]=>0
 |c::r=>if ep c.toNat||(!first&&(nI c.toNat||x5 c.toNat 95)) then Tu F r+1 else 0
theorem Pd:∀s:K0,(Tu F s==O s)=s.all λc=>nO c.toNat
 |[]=>rfl
 |c::r=>by
  have h1:=Pd r
  grind [nO,ep,nI,x5,Tu]
def Vi (s:K0):M3 s=(!O4 s []&&aH (O s) 16&&x5 (Tu W s) (O s)):=by
 cases s with
 |nil=>simp [M3,I9]
 |cons c r =>
  have h1:=Pd r;have h3:O4 (c::r) []=F:=by simp [I9]
  have hc:nO c.toNat=(ep c.toNat||nI c.toNat||x5 c.toNat 95):=rfl;simp [M3,Tu,Bool.or_false];cases h:ep c.toNat with
  |false=>grind [o9]
  |true =>
   grind [F0,aH,Tu,x5]
set_option maxHeartbeats 2000000 in
def aK5 (s:K0)(hs:O s<=100000):Pf A 276 [.d (.str s)] (.d (Z (Tu W s))):=by
 refine Pf.gr 2 ?_;refine Ex.M4 (λk T H=>∃(i:Nat),T=[.d (.str s),.any,.d (Z i)]/\H=[]/\i+k=O s/\Tu W s=i+Tu (!F0 0 i) (s.drop i)) ?_ (k:=O s) ⟨0,rfl,rfl,U,by simp [A1]⟩;rintro k _ _ ⟨i,rfl,rfl,hk,hi⟩;refine Ex.seq ?_;refine tc (F0 i (O s)&&(ep (Y s i).toNat||(F0 0 i&&(nI (Y s i).toNat||x5 (Y s i).toNat 95)))) (And.intro aK7 aK8) (λh1=>?_) (λh1=>?_)
 .simp only [c9] at h1
  have h2:=C8 h1.1;rw [D8 V,Tu,Bool.not_not,h1.2,if_pos rfl] at hi;refine gr ?_;refine kk ⟨i+1,rfl,rfl,V,?_⟩;have h3:F0 0 ((i+1:Nat):Int)=W:=by simp only [A1,decide_eq_true_eq];omega
  rw [hi,h3,Bool.not_true];omega
 .refine gr ?_
  refine ⟨_,rfl,?_⟩;have h3:Tu (!F0 0 i) (s.drop i)=0:=by
   rcases A7 i (O s) with h|h
   .have h4:F0 i (O s)=W:=by simp [A1];omega
    rw [h4,Bool.true_and] at h1;rw [D8 h,Tu,Bool.not_not,h1];rfl
   .rw [n5 h];rfl
  rw [hi,h3];rfl
def bn0 {s:K0}(h:aH (O s) 16=W):O s<=100000:=by have:=kM h;omega
def Vv (s:K0):Pf A 247 [.d (.str s)] (.d (.bool (M3 s))):=by
 rw [Vi];refine Pf.go 1 ?_
 repeat' (first|refine cl (aK5 s (bn0 hw)) ?_|refine gy ?_|refine fq (λhw=>?_) λhw=>?_|refine ⟨_,rfl,?_⟩|fail)
 all_goals exact cc
end Go.Proofs.YtibjocmpkoepoaaGreat

