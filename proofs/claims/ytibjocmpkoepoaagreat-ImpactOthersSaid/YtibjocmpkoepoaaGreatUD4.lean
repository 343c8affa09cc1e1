import Derived.Test.YtibjocmpkoepoaaGreatUD0
set_option linter.all false
open Bool renaming and_eq_true→c9,false_eq_true→j6,not_eq_false'→B5,not_eq_true'→o3,or_eq_false_iff→C7,true→W,false→F
open List renaming append_assoc→G8,cons_append→x7,drop_of_length_le→n5,length_append→k8,length_cons→o8,length_nil→A4,map_cons→E8,length→O
open Nat renaming lt_or_ge→y7
open Option renaming some→J,none→K
namespace Go.Proofs.YtibjocmpkoepoaaGreat
open Go.y9 Go.y9.S
attribute [local irreducible] Rx Ry Rn Ex Pf
set_option maxHeartbeats 4000000 in
def QO (t:R2):Pf A 292 [trm t] (.d (.bool (tZ t))):=by
 refine Pf.go 2 ?_
 repeat' (first|refine cl (Ma _) ?_|refine cl (WU _ _ _) ?_|refine gy ?_|refine fq (λhw=>?_) λhw=>?_|refine ⟨_,rfl,?_⟩|fail)
 all_goals simp only [j5,tZ,bt,zeroV, *]
 all_goals simp [*,o6,F3,Bool.and_comm,Bool.and_left_comm,Bool.and_assoc]
 done
def ek (e:List R2)(p:Nat):Nat×Nat:=match L0 (O e+1) (e.drop p) with
 |none=>(0,p)
 |some (a,r)=>(a.dep,O e - O r)
def oM (e:List R2)(k m p:Nat):Option (Nat×Nat):=match cD (L0 (O e)) k (e.drop p) with
 |none=>K
 |some (l,r)=>J (max m (ja l),O e - O r)
def Ag (a:X8):0<a.dep:=by
 cases a;simp [X8.dep]
def sE (e:List R2)(p:Nat)(hp:0<p):(ek e p=(0,p)/\L0 (O e) (e.drop p)=K)\/∃(q:Nat) (a:X8),ek e p=(a.dep,q)/\q<=O e/\p<=q/\L0 (O e) (e.drop p)=J (a,e.drop q):=by
 have h0:L0 (O e+1) (e.drop p)=L0 (O e) (e.drop p):=AH D U;simp only [ek,h0]
 rcases nj e (O e) p with ⟨h1,h2⟩|⟨q,h1,h3,h4,a,h2⟩
 .exact Or.inl ⟨by rw [h2],h2⟩
 .refine Or.inr ⟨q,a,?_,h3,h4,h2⟩
  rw [h2];simp only [List.length_drop]
  congr 1
  omega
def Fo {e:List R2}{k m p:Nat}(hp:0<p):oM e (k+1) m p=if (ek e p).1=0 then K else oM e k (max m (ek e p).1) (ek e p).2:=by
 rcases sE e p hp with ⟨h1,h2⟩|⟨q,a,h1,_,_,h2⟩
 .simp only [oM,cD,h2,h1,if_true]
 .have:=Ag a
  rw [h1,if_neg (by simp only;omega)];simp only [oM,cD,h2];cases cD (L0 (O e)) k (e.drop q) with
  |none=>rfl
  |some x =>
   obtain ⟨l,r⟩:=x;simp only [ja,Option.some.injEq,Prod.mk.injEq,and_true];omega
def Fp {e:List R2}{p:Nat}(hp:p<O e)(h:tZ (Y e p)=W):ek e p=match oM e (iT (Y e p).op).toNat 0 (p+1) with
  |none=>(0,p)
  |some (d,q)=>(d+1,q):=by
 simp only [ek,oM];rw [C4 hp,L0,h,if_pos rfl];cases cD (L0 (O e)) (iT (Y e p).op).toNat (e.drop (p+1)) with
 |none=>rfl
 |some x =>
  obtain ⟨l,r⟩:=x;simp [X8.dep]
def vD {e:List R2}{p:Nat}(h:O e<=p\/tZ (Y e p)=F):ek e p=(0,p):=by
 simp only [ek]
 rcases h with h|h
 .rw [n5 h]
  rfl
 .rcases y7 p (O e) with hp|hp
  .rw [C4 hp,L0,h,if_neg U]
  .rw [n5 hp]
   rfl
set_option maxHeartbeats 4000000 in
def WR (e:List R2)(he:O e<=1000):∀m p:Nat,O e<=p+m->p<=2000->Pf A 283 [dM e,.d (Z p)] (.tuple [.d (Z (ek e p).1),.d (Z (ek e p).2)]):=by
 intro m
 induction m with
 |zero =>
  intro p hm hp;refine Pf.gr 8 ?_;refine tc (W) QO (λh1=>?_) (λh1=>?_)
  .refine gr ?_
   exact ⟨_,rfl,by rw [vD (Or.inl V)];rfl⟩
  .cases h1
 |succ m ih =>
  intro p hm hp;refine Pf.gr 8 ?_;refine tc (T5 (O e) p|| !tZ (Y e p)) QO (λh1=>?_) (λh1=>?_)
  .refine gr ?_
   refine ⟨_,rfl,?_⟩;rw [vD]
   .rfl
   .simp only [Bool.or_eq_true,o3] at h1
    rcases h1 with h|h
    .have:=ej h;left;omega
    .exact Or.inr h
  simp only [C7,B5] at h1;have h2:=kI h1.1;have h3:=lC (Y e p).op;have h4:0<=iT (Y e p).op:=by
   have:=h1.2;simp only [tZ,c9,o3] at this;exact B8 this.1
  repeat' (first|refine clT (Ma _) (h2:=?_)|refine gx ?_|fail)
  refine Ex.bW (λk T H=>∃(i q d:Nat) (v2 v3 v6 v7:c7),T=[dM e,.d (Z p),v2,v3,.d (Z d),.d (Z q),v6,v7,.d (Z (iT (Y e p).op)),.d (Z i)]/\H=[]/\(i:Int)+k=iT (Y e p).op/\p<q/\q<=O e/\d<=2000/\ek e p=(match oM e k d q with|none=>(0,p)|some (d,q)=>(d+1,q))) ?_ (k:=(iT (Y e p).op).toNat) ⟨0,p+1,0,_,_,_,_,rfl,rfl,V,V,V,V,Fp V h1.2⟩;rintro k _ _ ⟨i,q,d,v2,v3,v6,v7,rfl,rfl,hk,hpq,hq,hd,hi⟩;refine Ex.nT ?_;refine Ex.seq ?_;refine tl i (iT (Y e p).op) (λh6=>?_) (λh6=>?_)
  .obtain ⟨k,rfl⟩:∃k',k=k' +1:=⟨k - 1,V⟩
   rw [Fo V] at hi;have h7:=ih q V V
   rcases sE e q V with ⟨e1,_⟩|⟨q',a,e1,e2,e3,e4⟩
   .rw [e1] at hi h7
    rw [if_pos rfl] at hi;refine gc h7 ?_;refine tb (W) (λh8=>?_) (λh8=>?_)
    .refine gr ?_
     exact ⟨_,rfl,by rw [hi];rfl⟩
    .cases h8
   .rw [e1] at hi h7
    have e5:=Ag a;have e6:a.dep<=1000:=by
     have:=(Q3 _ _ _ _ e4).2.2;omega
    rw [if_neg (by simp only;omega)] at hi;refine gc h7 ?_;refine tb (F) (λh8=>?_) (λh8=>?_)
    .cases h8
    refine gr ?_;have e7:(if (a.dep:Int)>(d:Int) then (a.dep:Int) else (d:Int))=((max d a.dep:Nat):Int):=by split<;>omega
    exact ⟨k,V,i+1,q',max d a.dep,_,_,_,_,by rw [<- e7];rfl,rfl,V,V,e2,V,hi⟩
  .obtain rfl:k=0:=V
   refine gr ?_;refine ⟨_,rfl,?_⟩;have h8:oM e 0 d q=J (d,q):=by
    simp only [oM,cD,ja,List.length_drop,Option.some.injEq,Prod.mk.injEq];omega
   rw [hi,h8];rfl
set_option maxHeartbeats 2000000 in
def LZ (e:List R2)(he:O e<=1000):Pf A 262 [dM e] (.d (.bool (V6 e))):=by
 have h0:=WR e he (O e) 0 V V;refine Pf.go 3 ?_
 repeat' (first|refine df ?_|refine gx ?_|fail)
 refine tb (D5 64 (O e)) (λh1=>?_) (λh1=>?_)
 .refine gr ?_
  refine ⟨_,rfl,?_⟩;have:=A7 h1;have:V6 e=F:=by simp [V6,x6];omega
  rw [this];rfl
 have h2:=B8 h1;have h3:V6 e=(D5 0 (ek e 0).1&&T5 (ek e 0).1 16&&x4 (ek e 0).2 (O e)):=by
  rw [dN];have h4:(dP e).isSome=(decide (1<=O e)&&(match L0 16 e with|some (_,[])=>W|_=>F)):=by
   unfold dP
   by_cases h5:1<=O e
   .have:(T5 1 (O e)&&T5 (O e) 64)=W:=by simp [x6];omega
    rw [this,if_pos rfl];simp only [h5,decide_true,Bool.true_and];split<;>simp_all
   .have:(T5 1 (O e)&&T5 (O e) 64)=F:=by simp [x6];omega
    rw [this,if_neg U];simp [h5]
  rw [h4];simp only [ek,List.drop_zero];cases h5:L0 (O e+1) e with
  |none =>
   have h6:L0 16 e=K:=by
    cases h7:L0 16 e with
    |none=>rfl
    |some x =>
     obtain ⟨a,r⟩:=x;obtain ⟨g1,g2,g3⟩:=Q3 16 e a r h7;have:=kA a;have hl:O a.flat<=O e:=by rw [g1];simp
     have:=T9 a (O e+1) r g2 V;rw [<- g1,h5] at this;cases this
   simp [h6,y4]
  |some x =>
   obtain ⟨a,r⟩:=x;obtain ⟨g1,g2,g3⟩:=Q3 _ e a r h5;have hp:=Ag a;have hf:=fL a;have hl:O a.flat+O r=O e:=by rw [g1];simp
   by_cases h7:a.dep<=16
   .have:=T9 a 16 r g2 h7
    rw [<- g1] at this;rw [this];cases r with
    |nil =>
     have e1:decide (1<=O e)=W:=by simp at hl ⊢;omega
     have e2:D5 0 a.dep=W:=by simp only [y4,decide_eq_true_eq];omega
     have e3:T5 a.dep 16=W:=by simp only [x6,decide_eq_true_eq];omega
     have e4:x4 ((O e - O ([]:List R2):Nat):Int) (O e)=W:=by simp [o6]
     simp only [e1,e2,e3,e4,Bool.and_self]
    |cons t r =>
     have e4:x4 ((O e - O (t::r):Nat):Int) (O e)=F:=by simp only [o6,beq_eq_false_iff_ne];simp only [o8] at hl ⊢;omega
     simp only [e4,Bool.and_false]
   .have h8:L0 16 e=K:=by
     cases h9:L0 16 e with
     |none=>rfl
     |some y =>
      obtain ⟨b,s⟩:=y;obtain ⟨k1,k2,k3⟩:=Q3 16 e b s h9;have hfb:=kA b;have jH:O b.flat<=O e:=by rw [k1];simp
      have:=T9 b (O e+1) s k2 V;rw [<- k1,h5] at this;cases this;exact absurd k3 h7
    rw [h8];simp [y4,x6,o6];omega
 rw [h3]
 repeat' (first|refine cl (h0) ?_|refine gy ?_|refine fq (λhw=>?_) λhw=>?_|refine ⟨_,rfl,?_⟩|fail)
 all_goals exact cc
set_option maxHeartbeats 16000000 in
def WS (ty:List Int)(t:R2)(a b c:Int)(hc:t.op≠2\/(0<=t.col/\t.col<O ty)):Pf A 291 [trm t,.agg [.d (Z a),.d (Z b),.d (Z c)],.d (ints ty)] (.tuple [.d (Z (AP ty t a b c).1),.d (.bool (AP ty t a b c).2)]):=by
 refine Pf.go 10 ?_
 repeat' (first|refine gy ?_|refine fq (λhw=>?_) λhw=>?_|refine ⟨_,rfl,?_⟩|fail)
 all_goals simp only [j5,AP, *,E8,List.map_nil,c7.I7]
 all_goals simp [*,Z]
def three (ts:List Int):List c7:=[.d (Z (Y ts 0)),.d (Z (Y ts 1)),.d (Z (Y ts 2))]
set_option maxHeartbeats 8000000 in
def WN (ty:List Int)(nU:aH ty=W)(e:List R2)(he:O e<=1000):∀(n:Nat) (a:X8) (p:Nat) (r:List R2),O a.flat<=n->e.drop p=a.flat++r->a.wf ->
  Pf A 281 [dM e,.d (Z p),.d (ints ty)] (.tuple [.d (Z (a.typ ty).1),.d (Z (if x4 (a.typ ty).2 0 then ((p+O a.flat:Nat):Int) else 0)),.d (Z (a.typ ty).2)]):=by
 intro n
 induction n with
 |zero=>intro a p r h;have:=fL a;omega
 |succ n ih =>
 rintro ⟨t,l⟩ p r hn hp hw;simp only [X8.flat] at hn hp ⊢;have hpe:O (t::K4 l)+O r+p=O e:=by
  have:=congrArg List.length hp;have h2:p<O e:=by
   rcases y7 p (O e) with h|h
   .exact h
   .rw [n5 h] at hp;cases hp
  simp at this ⊢;omega
 have oJ:p<O e:=by simp at hpe;omega
 have h0:Y e p=t/\e.drop (p+1)=K4 l++r:=by
  rw [C4 oJ] at hp;simp only [x7,List.cons.injEq] at hp;exact hp
 obtain ⟨h0,hp1⟩:=h0;obtain ⟨hok,Ua,Ei⟩:=hw;have hl3:O l<=3:=by have:=lC t.op;omega
 have RU:iT t.op=O l:=by
  simp only [tZ,c9,o3] at hok;have:=B8 hok.1;omega
 refine Pf.gr 14 ?_;rw [h0];refine gr ?_;refine clT (Ma t.op) (h2:=?_);rw [RU];refine gr ?_;refine Ex.bW (λk T H=>∃(i q:Nat) (l1 l2:List X8) (ts:List Int) (v1 v3 v4 v5 v9 v10 v11 v12 v13 v14:c7),T=[dM e,v1,.d (ints ty),v3,v4,v5,.ptr 0 0,.d (Z q),.ptr 1 0,v9,v10,v11,v12,v13,v14,.d (Z (O l)),.d (Z i)]/\H=[.cells (t.enc.map .d),.cells (three ts)]/\i=O l1/\k=O l2/\l=l1++l2/\O ts=i/\(ew ty l).1=ts++(ew ty l2).1/\(ew ty l).2=(ew ty l2).2/\e.drop q=K4 l2++r/\q+O (K4 l2)=p+O (t::K4 l)) ?_ (k:=O l) ⟨0,p+1,[],l,[],_,_,_,_,_,_,_,_,_,_,rfl,by simp only [three,tY];rfl,rfl,rfl,rfl,rfl,rfl,rfl,hp1,D⟩;rintro k _ _ ⟨i,q,l1,l2,ts,v1,v3,v4,v5,v9,v10,v11,v12,v13,v14,rfl,rfl,sr,hk,hl,hts,e1,e2,hq,hqe⟩;have hlen:O l=O l1+O l2:=by rw [hl];simp
 refine Ex.nT ?_;refine Ex.seq ?_;refine tl i (O l) (λh4=>?_) (λh4=>?_)
 .cases l2 with
  |nil=>simp at hlen;omega
  |cons a l2 =>
  have ha:a∈l:=by rw [hl];simp
  have ee:=ih a q (K4 l2++r) (by have:=uZ ha;simp at hn;omega) (by rw [hq];simp [K4]) (FQ Ei ha);simp only [ew] at e1 e2;simp only [K4,k8] at hqe;refine gc ee ?_;refine tb (!x4 (a.typ ty).2 0) (λh5=>?_) (λh5=>?_)
  .simp only [o3] at h5
   simp only [h5,j6,if_false] at e1 e2;refine gr ?_;refine ⟨_,rfl,?_⟩;simp [j5,X8.typ,e2,h5,c7.I7,Z]
  .simp only [B5] at h5
   simp only [h5,if_true] at e1 e2 ⊢;refine gr ?_;have h6:e.drop (q+O a.flat)=K4 l2++r:=by
    rw [<- List.drop_drop,hq,K4,G8,List.drop_left]
   have h7:ts=[]\/(∃x,ts=[x])\/∃x y,ts=[x,y]:=by
    match ts,hts with
    |[],_=>exact Or.inl rfl
    |[x],_=>exact Or.inr (Or.inl ⟨x,rfl⟩)
    |[x,y],_=>exact Or.inr (Or.inr ⟨x,y,rfl⟩)
    |x::y::z::w,h=>simp at h;omega
   rcases h7 with rfl|⟨x,rfl⟩|⟨x,y,rfl⟩
   .simp only [A4] at hts
    refine Yo (e:=(i:Int)) (o2:=0) 0 V rfl (by decide) ?_;unfold three;refine gr ?_;exact ⟨O l2,by simp at hk;omega,i+1,q+O a.flat,l1++[a],l2,[(a.typ ty).1],_,_,_,_,_,_,_,_,_,_,rfl,by simp only [three,tY,O2,aS],by simp [sr],rfl,by simp [hl],D,by simpa using e1,e2,h6,V⟩
   .simp only [o8,A4] at hts
    refine Yo (e:=(i:Int)) (o2:=1) 1 V rfl (by decide) ?_;unfold three;refine gr ?_;exact ⟨O l2,by simp at hk;omega,i+1,q+O a.flat,l1++[a],l2,[x,(a.typ ty).1],_,_,_,_,_,_,_,_,_,_,rfl,by simp only [three,tY,O2,aS],by simp [sr],rfl,by simp [hl],D,by simpa using e1,e2,h6,V⟩
   .simp only [o8,A4] at hts
    refine Yo (e:=(i:Int)) (o2:=2) 2 V rfl (by decide) ?_;unfold three;refine gr ?_;exact ⟨O l2,by simp at hk;omega,i+1,q+O a.flat,l1++[a],l2,[x,y,(a.typ ty).1],_,_,_,_,_,_,_,_,_,_,rfl,by simp only [three,tY,O2,aS],by simp [sr],rfl,by simp [hl],D,by simpa using e1,e2,h6,V⟩
 .cases l2 with
  |cons a l2=>simp at hlen;omega
  |nil =>
  simp only [ew,List.append_nil] at e1 e2;have JC:O ts=O l:=by simp at hlen;omega
  have htg:∀x,x∈ts->good x:=by rw [<- e1];exact rE nU l Ei
  refine gr ?_;refine tb (x4 t.op 2&&T5 (O ty) t.col) (λh5=>?_) (λh5=>?_)
  .simp only [c9] at h5
   have h6:x4 t.op 1=F:=by have:=W6 h5.1;simp [o6];omega
   refine gr ?_;refine ⟨_,rfl,?_⟩;simp [j5,X8.typ,e2,h5,h6,wO,c7.I7,Z,o6]
  have Eg:t.op≠2\/(0<=t.col/\t.col<O ty):=by
   cases h6:x4 t.op 2 with
   |false=>exact Or.inl (jF h6)
   |true =>
    right;have h7:x4 t.op 1=F:=by have:=W6 h6;simp [o6];omega
    simp only [h6,Bool.true_and] at h5;simp only [tZ,bt,h6,h7,if_true,j6,if_false,c9] at hok;exact ⟨ej hok.2.2,kI h5⟩
  have Oi:=PG (ty:=ty) (t:=t) (ts:=ts) htg (λh=>by simpa [h] using h5)
   (λh=>by have h8:=W6 h;have h9:=RU;unfold iT at h9;rw [h8] at h9;simp [o6,x6] at h9;omega)
   (λh=>by have h8:=W6 h;have h9:=RU;unfold iT at h9;rw [h8] at h9;simp [o6,x6] at h9;omega)
  have hz:x4 (ew ty l).2 0=W:=by rw [e2];simp [o6]
  have Iv:(X8.node t l).typ ty=if (AP ty t (Y ts 0) (Y ts 1) (Y ts 2)).2 then ((AP ty t (Y ts 0) (Y ts 1) (Y ts 2)).1,0) else (0,5):=by
   simp only [X8.typ,hz,if_true,e1,Oi]
  unfold three;refine gc (WS ty t _ _ _ Eg) ?_;rw [Iv];cases h6:(AP ty t (Y ts 0) (Y ts 1) (Y ts 2)).2 with
  |false =>
   refine tb (W) (λh7=>?_) (λh7=>?_)
   .refine gr ?_
    refine ⟨_,rfl,?_⟩;simp [j5,c7.I7,Z,o6]
   .cases h7
  |true =>
   refine tb (F) (λh7=>?_) (λh7=>?_)
   .cases h7
   refine gr ?_;refine ⟨_,rfl,?_⟩;simp only [K4,A4,Nat.add_zero] at hqe;simp [j5,c7.I7,Z,o6,hqe]
def sY {e:List R2}{a:X8}(h:dP e=J a):e=a.flat/\a.wf/\a.dep<=16:=by
 unfold dP at h;split at h
 .split at h
  next b h4=>
   obtain ⟨e1,e2,e3⟩:=Q3 16 e b [] h4;simp_all
  .cases h
 .cases h
set_option maxHeartbeats 2000000 in
def LW (e:List R2)(ty:List Int)(he:O e<=1000)(ht:O ty<=100000):Pf A 255 [dM e,.d (ints ty)] (pair (J7 e ty)):=by
 refine Pf.gr 8 ?_;refine tB (!V6 e) ?_ (λh1=>?_) (λh1=>?_)
 .repeat' (first|refine cl (LZ e he) ?_|refine gx ?_|refine fq (λhw=>?_) λhw=>?_|refine ⟨rfl,rfl,_,rfl,?_⟩|rfl|fail)
 .refine gr ?_
  refine ⟨_,rfl,?_⟩;simp_all [dN,dP,J7,j5,pair,Z,c7.I7]
 rw [dN] at h1;cases h2:dP e with
 |none=>simp_all
 |some a =>
 have h3:=sY h2;refine gr ?_;refine Ex.yU (λk T H=>∃(i:Nat) (v w x y z:c7),T=[dM e,.d (ints ty),v,w,x,y,z,.d (ints ty),.d (Z (O ty)),.d (Z i)]/\H=[]/\i+k=O ty/\aH ty=aH (ty.drop i)) M ?_ (k:=O ty) ⟨0,_,_,_,_,_,rfl,rfl,U,U⟩;rintro k _ _ ⟨i,v,w,x,y,z,rfl,rfl,hk,hi⟩;refine Ex.nT ?_;refine Ex.seq ?_;refine tl i (O ty) (λh5=>?_) (λh5=>?_)
 .rw [C4 V] at hi
  refine gr ?_;refine tb (!x4 (Y ty i) 1&& !x4 (Y ty i) 2) (λh6=>?_) (λh6=>?_)
  .refine gr ?_
   refine ⟨_,rfl,?_⟩;simp_all [aH,c9,o3,J7,j5,pair,Z,c7.I7]
  .refine gr ?_
   refine kk ⟨i+1,_,_,_,_,_,rfl,rfl,V,?_⟩
   grind [aH,x4,Y]
 .rw [n5 V] at hi
  have hg:aH ty=W:=by rw [hi];rfl
  have h6:=WN ty hg e he (O e) a 0 [] M M h3.2.1;refine gc h6 ?_;refine ⟨_,rfl,?_⟩
  grind [J7,j5,pair,c7.I7]
def WO (n:Int):Pf A 288 [.d (.int .u8 n)] (.d (.bool (bu n))):=by
 refine Pf.go 1 ?_
 repeat' (first|refine gy ?_|refine fq (λhw=>?_) λhw=>?_|refine ⟨_,rfl,?_⟩|fail)
 all_goals simp_all [j5,bu]
def WQ (n:Int):Pf A 289 [.d (.int .u8 n)] (.d (.bool (jb n))):=by
 refine Pf.go 1 ?_
 repeat' (first|refine gy ?_|refine fq (λhw=>?_) λhw=>?_|refine ⟨_,rfl,?_⟩|fail)
 all_goals simp_all [j5,jb]
def JH (first:Bool):G4->Nat
 |[]=>0
 |c::r=>if bu c.toNat||(!first&&(jb c.toNat||x4 c.toNat 95)) then JH F r+1 else 0
theorem Hf:∀s:G4,(JH F s==O s)=s.all λc=>jh c.toNat
 |[]=>rfl
 |c::r=>by
  have h1:=Hf r
  grind [jh,bu,jb,x4,JH]
def LI (s:G4):J3 s=(!K3 s []&&T5 (O s) 16&&x4 (JH W s) (O s)):=by
 cases s with
 |nil=>simp [J3,F3]
 |cons c r =>
  have h1:=Hf r;have h3:K3 (c::r) []=F:=by simp [F3]
  have hc:jh c.toNat=(bu c.toNat||jb c.toNat||x4 c.toNat 95):=rfl;simp [J3,JH,Bool.or_false];cases h:bu c.toNat with
  |false=>grind [o6]
  |true =>
   grind [D5,T5,JH,x4]
set_option maxHeartbeats 2000000 in
def WM (s:G4)(hs:O s<=100000):Pf A 276 [.d (.str s)] (.d (Z (JH W s))):=by
 refine Pf.gr 2 ?_;refine Ex.J4 (λk T H=>∃(i:Nat),T=[.d (.str s),.any,.d (Z i)]/\H=[]/\i+k=O s/\JH W s=i+JH (!D5 0 i) (s.drop i)) ?_ (k:=O s) ⟨0,rfl,rfl,U,by simp [y4]⟩;rintro k _ _ ⟨i,rfl,rfl,hk,hi⟩;refine Ex.seq ?_;refine tc (D5 i (O s)&&(bu (Y s i).toNat||(D5 0 i&&(jb (Y s i).toNat||x4 (Y s i).toNat 95)))) (And.intro WO WQ) (λh1=>?_) (λh1=>?_)
 .simp only [c9] at h1
  have h2:=A7 h1.1;rw [C4 V,JH,Bool.not_not,h1.2,if_pos rfl] at hi;refine gr ?_;refine kk ⟨i+1,rfl,rfl,V,?_⟩;have h3:D5 0 ((i+1:Nat):Int)=W:=by simp only [y4,decide_eq_true_eq];omega
  rw [hi,h3,Bool.not_true];omega
 .refine gr ?_
  refine ⟨_,rfl,?_⟩;have h3:JH (!D5 0 i) (s.drop i)=0:=by
   rcases y7 i (O s) with h|h
   .have h4:D5 i (O s)=W:=by simp [y4];omega
    rw [h4,Bool.true_and] at h1;rw [C4 h,JH,Bool.not_not,h1];rfl
   .rw [n5 h];rfl
  rw [hi,h3];rfl
def al3 {s:G4}(h:T5 (O s) 16=W):O s<=100000:=by have:=ej h;omega
def LV (s:G4):Pf A 247 [.d (.str s)] (.d (.bool (J3 s))):=by
 rw [LI];refine Pf.go 1 ?_
 repeat' (first|refine cl (WM s (al3 hw)) ?_|refine gy ?_|refine fq (λhw=>?_) λhw=>?_|refine ⟨_,rfl,?_⟩|fail)
 all_goals exact cc
end Go.Proofs.YtibjocmpkoepoaaGreat

