import Derived.Test.YtibjocmpkoepoaaGreatD0
set_option linter.all false
open Bool renaming and_eq_true→c8,false_eq_true→e8,not_eq_false'→D5,not_eq_true'→o8,or_eq_false_iff→E5,true→W,false→F
open List renaming append_assoc→M3,cons_append→G9,drop_of_length_le→o7,length_append→s9,length_cons→q7,length_nil→I8,map_cons→M8,length→O
open Nat renaming lt_or_ge→x9
open Option renaming some→J,none→K
namespace Go.Proofs.YtibjocmpkoepoaaGreat
open Go.B3 Go.B3.S
attribute [local irreducible] Rx Ry Rn Ex Pf
set_option maxHeartbeats 4000000 in
def aB6 (t:bU):Pf A 292 [trm t] (.d (.bool (CZ t))):=by
 refine Pf.go 2 ?_
 repeat' (first|refine cl (YS _) ?_|refine cl (bh4 _ _ _) ?_|refine gy ?_|refine fq (λhw=>?_) λhw=>?_|refine ⟨_,rfl,?_⟩|fail)
 all_goals simp only [j5,CZ,gu,zeroV, *]
 all_goals simp [*,p7,I5,Bool.and_comm,Bool.and_left_comm,Bool.and_assoc]
 done
def jj (e:List bU)(p:Nat):Nat×Nat:=match O6 (O e+1) (e.drop p) with
 |none=>(0,p)
 |some (a,r)=>(a.dep,O e - O r)
def vG (e:List bU)(k m p:Nat):Option (Nat×Nat):=match gB (O6 (O e)) k (e.drop p) with
 |none=>K
 |some (l,r)=>J (max m (oy l),O e - O r)
def IB (a:cq):0<a.dep:=by
 cases a;simp [cq.dep]
def yY (e:List bU)(p:Nat)(hp:0<p):(jj e p=(0,p)/\O6 (O e) (e.drop p)=K)\/∃(q:Nat) (a:cq),jj e p=(a.dep,q)/\q<=O e/\p<=q/\O6 (O e) (e.drop p)=J (a,e.drop q):=by
 have h0:O6 (O e+1) (e.drop p)=O6 (O e) (e.drop p):=Je D U;simp only [jj,h0]
 rcases uq e (O e) p with ⟨h1,h2⟩|⟨q,h1,h3,h4,a,h2⟩
 .exact Or.inl ⟨by rw [h2],h2⟩
 .refine Or.inr ⟨q,a,?_,h3,h4,h2⟩
  rw [h2];simp only [List.length_drop]
  congr 1
  omega
def PB {e:List bU}{k m p:Nat}(hp:0<p):vG e (k+1) m p=if (jj e p).1=0 then K else vG e k (max m (jj e p).1) (jj e p).2:=by
 rcases yY e p hp with ⟨h1,h2⟩|⟨q,a,h1,_,_,h2⟩
 .simp only [vG,gB,h2,h1,if_true]
 .have:=IB a
  rw [h1,if_neg (by simp only;omega)];simp only [vG,gB,h2];cases gB (O6 (O e)) k (e.drop q) with
  |none=>rfl
  |some x =>
   obtain ⟨l,r⟩:=x;simp only [oy,Option.some.injEq,Prod.mk.injEq,and_true];omega
def PC {e:List bU}{p:Nat}(hp:p<O e)(h:CZ (Y e p)=W):jj e p=match vG e (pY (Y e p).op).toNat 0 (p+1) with
  |none=>(0,p)
  |some (d,q)=>(d+1,q):=by
 simp only [jj,vG];rw [E3 hp,O6,h,if_pos rfl];cases gB (O6 (O e)) (pY (Y e p).op).toNat (e.drop (p+1)) with
 |none=>rfl
 |some x =>
  obtain ⟨l,r⟩:=x;simp [cq.dep]
def CL {e:List bU}{p:Nat}(h:O e<=p\/CZ (Y e p)=F):jj e p=(0,p):=by
 simp only [jj]
 rcases h with h|h
 .rw [o7 h]
  rfl
 .rcases x9 p (O e) with hp|hp
  .rw [E3 hp,O6,h,if_neg U]
  .rw [o7 hp]
   rfl
set_option maxHeartbeats 4000000 in
def bh1 (e:List bU)(he:O e<=1000):∀m p:Nat,O e<=p+m->p<=2000->Pf A 283 [oV e,.d (Z p)] (.tuple [.d (Z (jj e p).1),.d (Z (jj e p).2)]):=by
 intro m
 induction m with
 |zero =>
  intro p hm hp;refine Pf.gr 8 ?_;refine tc (W) aB6 (λh1=>?_) (λh1=>?_)
  .refine gr ?_
   exact ⟨_,rfl,by rw [CL (Or.inl V)];rfl⟩
  .cases h1
 |succ m ih =>
  intro p hm hp;refine Pf.gr 8 ?_;refine tc (bC (O e) p|| !CZ (Y e p)) aB6 (λh1=>?_) (λh1=>?_)
  .refine gr ?_
   refine ⟨_,rfl,?_⟩;rw [CL]
   .rfl
   .simp only [Bool.or_eq_true,o8] at h1
    rcases h1 with h|h
    .have:=nD h;left;omega
    .exact Or.inr h
  simp only [E5,D5] at h1;have h2:=vE h1.1;have h3:=rZ (Y e p).op;have h4:0<=pY (Y e p).op:=by
   have:=h1.2;simp only [CZ,c8,o8] at this;exact G7 this.1
  repeat' (first|refine clT (YS _) (h2:=?_)|refine gx ?_|fail)
  refine Ex.jH (λk T H=>∃(i q d:Nat) (v2 v3 v6 v7:c7),T=[oV e,.d (Z p),v2,v3,.d (Z d),.d (Z q),v6,v7,.d (Z (pY (Y e p).op)),.d (Z i)]/\H=[]/\(i:Int)+k=pY (Y e p).op/\p<q/\q<=O e/\d<=2000/\jj e p=(match vG e k d q with|none=>(0,p)|some (d,q)=>(d+1,q))) ?_ (k:=(pY (Y e p).op).toNat) ⟨0,p+1,0,_,_,_,_,rfl,rfl,V,V,V,V,PC V h1.2⟩;rintro k _ _ ⟨i,q,d,v2,v3,v6,v7,rfl,rfl,hk,hpq,hq,hd,hi⟩;refine Ex.nT ?_;refine Ex.seq ?_;refine tl i (pY (Y e p).op) (λh6=>?_) (λh6=>?_)
  .obtain ⟨k,rfl⟩:∃k',k=k' +1:=⟨k - 1,V⟩
   rw [PB V] at hi;have h7:=ih q V V
   rcases yY e q V with ⟨e1,_⟩|⟨q',a,e1,e2,e3,e4⟩
   .rw [e1] at hi h7
    rw [if_pos rfl] at hi;refine gc h7 ?_;refine tb (W) (λh8=>?_) (λh8=>?_)
    .refine gr ?_
     exact ⟨_,rfl,by rw [hi];rfl⟩
    .cases h8
   .rw [e1] at hi h7
    have e5:=IB a;have e6:a.dep<=1000:=by
     have:=(V1 _ _ _ _ e4).2.2;omega
    rw [if_neg (by simp only;omega)] at hi;refine gc h7 ?_;refine tb (F) (λh8=>?_) (λh8=>?_)
    .cases h8
    refine gr ?_;have e7:(if (a.dep:Int)>(d:Int) then (a.dep:Int) else (d:Int))=((max d a.dep:Nat):Int):=by split<;>omega
    exact ⟨k,V,i+1,q',max d a.dep,_,_,_,_,by rw [<- e7];rfl,rfl,V,V,e2,V,hi⟩
  .obtain rfl:k=0:=V
   refine gr ?_;refine ⟨_,rfl,?_⟩;have h8:vG e 0 d q=J (d,q):=by
    simp only [vG,gB,oy,List.length_drop,Option.some.injEq,Prod.mk.injEq];omega
   rw [hi,h8];rfl
set_option maxHeartbeats 2000000 in
def bg7 (e:List bU)(he:O e<=1000):Pf A 262 [oV e] (.d (.bool (iP e))):=by
 have h0:=bh1 e he (O e) 0 V V;refine Pf.go 3 ?_
 repeat' (first|refine df ?_|refine gx ?_|fail)
 refine tb (J2 64 (O e)) (λh1=>?_) (λh1=>?_)
 .refine gr ?_
  refine ⟨_,rfl,?_⟩;have:=F5 h1;have:iP e=F:=by simp [iP,A7];omega
  rw [this];rfl
 have h2:=G7 h1;have h3:iP e=(J2 0 (jj e 0).1&&bC (jj e 0).1 16&&A1 (jj e 0).2 (O e)):=by
  rw [lB];have h4:(iQ e).isSome=(decide (1<=O e)&&(match O6 16 e with|some (_,[])=>W|_=>F)):=by
   unfold iQ
   by_cases h5:1<=O e
   .have:(bC 1 (O e)&&bC (O e) 64)=W:=by simp [A7];omega
    rw [this,if_pos rfl];simp only [h5,decide_true,Bool.true_and];split<;>simp_all
   .have:(bC 1 (O e)&&bC (O e) 64)=F:=by simp [A7];omega
    rw [this,if_neg U];simp [h5]
  rw [h4];simp only [jj,List.drop_zero];cases h5:O6 (O e+1) e with
  |none =>
   have h6:O6 16 e=K:=by
    cases h7:O6 16 e with
    |none=>rfl
    |some x =>
     obtain ⟨a,r⟩:=x;obtain ⟨g1,g2,g3⟩:=V1 16 e a r h7;have:=qy a;have hl:O a.flat<=O e:=by rw [g1];simp
     have:=aq a (O e+1) r g2 V;rw [<- g1,h5] at this;cases this
   simp [h6,A5]
  |some x =>
   obtain ⟨a,r⟩:=x;obtain ⟨g1,g2,g3⟩:=V1 _ e a r h5;have hp:=IB a;have hf:=kN a;have hl:O a.flat+O r=O e:=by rw [g1];simp
   by_cases h7:a.dep<=16
   .have:=aq a 16 r g2 h7
    rw [<- g1] at this;rw [this];cases r with
    |nil =>
     have e1:decide (1<=O e)=W:=by simp at hl ⊢;omega
     have e2:J2 0 a.dep=W:=by simp only [A5,decide_eq_true_eq];omega
     have e3:bC a.dep 16=W:=by simp only [A7,decide_eq_true_eq];omega
     have e4:A1 ((O e - O ([]:List bU):Nat):Int) (O e)=W:=by simp [p7]
     simp only [e1,e2,e3,e4,Bool.and_self]
    |cons t r =>
     have e4:A1 ((O e - O (t::r):Nat):Int) (O e)=F:=by simp only [p7,beq_eq_false_iff_ne];simp only [q7] at hl ⊢;omega
     simp only [e4,Bool.and_false]
   .have h8:O6 16 e=K:=by
     cases h9:O6 16 e with
     |none=>rfl
     |some y =>
      obtain ⟨b,s⟩:=y;obtain ⟨k1,k2,k3⟩:=V1 16 e b s h9;have hfb:=qy b;have sC:O b.flat<=O e:=by rw [k1];simp
      have:=aq b (O e+1) s k2 V;rw [<- k1,h5] at this;cases this;exact absurd k3 h7
    rw [h8];simp [A5,A7,p7];omega
 rw [h3]
 repeat' (first|refine cl (h0) ?_|refine gy ?_|refine fq (λhw=>?_) λhw=>?_|refine ⟨_,rfl,?_⟩|fail)
 all_goals exact cc
set_option maxHeartbeats 16000000 in
def bh2 (ty:List Int)(t:bU)(a b c:Int)(hc:t.op≠2\/(0<=t.col/\t.col<O ty)):Pf A 291 [trm t,.agg [.d (Z a),.d (Z b),.d (Z c)],.d (ints ty)] (.tuple [.d (Z (Jp ty t a b c).1),.d (.bool (Jp ty t a b c).2)]):=by
 refine Pf.go 10 ?_
 repeat' (first|refine gy ?_|refine fq (λhw=>?_) λhw=>?_|refine ⟨_,rfl,?_⟩|fail)
 all_goals simp only [j5,Jp, *,M8,List.map_nil,c7.F4]
 all_goals simp [*,Z]
def three (ts:List Int):List c7:=[.d (Z (Y ts 0)),.d (Z (Y ts 1)),.d (Z (Y ts 2))]
set_option maxHeartbeats 8000000 in
def bg8 (ty:List Int)(uQ:dQ ty=W)(e:List bU)(he:O e<=1000):∀(n:Nat) (a:cq) (p:Nat) (r:List bU),O a.flat<=n->e.drop p=a.flat++r->a.wf ->
  Pf A 281 [oV e,.d (Z p),.d (ints ty)] (.tuple [.d (Z (a.typ ty).1),.d (Z (if A1 (a.typ ty).2 0 then ((p+O a.flat:Nat):Int) else 0)),.d (Z (a.typ ty).2)]):=by
 intro n
 induction n with
 |zero=>intro a p r h;have:=kN a;omega
 |succ n ih =>
 rintro ⟨t,l⟩ p r hn hp hw;simp only [cq.flat] at hn hp ⊢;have hpe:O (t::O9 l)+O r+p=O e:=by
  have:=congrArg List.length hp;have h2:p<O e:=by
   rcases x9 p (O e) with h|h
   .exact h
   .rw [o7 h] at hp;cases hp
  simp at this ⊢;omega
 have AF:p<O e:=by simp at hpe;omega
 have h0:Y e p=t/\e.drop (p+1)=O9 l++r:=by
  rw [E3 AF] at hp;simp only [G9,List.cons.injEq] at hp;exact hp
 obtain ⟨h0,hp1⟩:=h0;obtain ⟨hok,har,hwl⟩:=hw;have hl3:O l<=3:=by have:=rZ t.op;omega
 have aI4:pY t.op=O l:=by
  simp only [CZ,c8,o8] at hok;have:=G7 hok.1;omega
 refine Pf.gr 14 ?_;rw [h0];refine gr ?_;refine clT (YS t.op) (h2:=?_);rw [aI4];refine gr ?_;refine Ex.jH (λk T H=>∃(i q:Nat) (l1 l2:List cq) (ts:List Int) (v1 v3 v4 v5 v9 v10 v11 v12 v13 v14:c7),T=[oV e,v1,.d (ints ty),v3,v4,v5,.ptr 0 0,.d (Z q),.ptr 1 0,v9,v10,v11,v12,v13,v14,.d (Z (O l)),.d (Z i)]/\H=[.cells (t.enc.map .d),.cells (three ts)]/\i=O l1/\k=O l2/\l=l1++l2/\O ts=i/\(jY ty l).1=ts++(jY ty l2).1/\(jY ty l).2=(jY ty l2).2/\e.drop q=O9 l2++r/\q+O (O9 l2)=p+O (t::O9 l)) ?_ (k:=O l) ⟨0,p+1,[],l,[],_,_,_,_,_,_,_,_,_,_,rfl,by simp only [three,Bk];rfl,rfl,rfl,rfl,rfl,rfl,rfl,hp1,D⟩;rintro k _ _ ⟨i,q,l1,l2,ts,v1,v3,v4,v5,v9,v10,v11,v12,v13,v14,rfl,rfl,EZ,hk,hl,hts,e1,e2,hq,hqe⟩;have hlen:O l=O l1+O l2:=by rw [hl];simp
 refine Ex.nT ?_;refine Ex.seq ?_;refine tl i (O l) (λh4=>?_) (λh4=>?_)
 .cases l2 with
  |nil=>simp at hlen;omega
  |cons a l2 =>
  have ha:a∈l:=by rw [hl];simp
  have mL:=ih a q (O9 l2++r) (by have:=Cq ha;simp at hn;omega) (by rw [hq];simp [O9]) (Qp hwl ha);simp only [jY] at e1 e2;simp only [O9,s9] at hqe;refine gc mL ?_;refine tb (!A1 (a.typ ty).2 0) (λh5=>?_) (λh5=>?_)
  .simp only [o8] at h5
   simp only [h5,e8,if_false] at e1 e2;refine gr ?_;refine ⟨_,rfl,?_⟩;simp [j5,cq.typ,e2,h5,c7.F4,Z]
  .simp only [D5] at h5
   simp only [h5,if_true] at e1 e2 ⊢;refine gr ?_;have h6:e.drop (q+O a.flat)=O9 l2++r:=by
    rw [<- List.drop_drop,hq,O9,M3,List.drop_left]
   have h7:ts=[]\/(∃x,ts=[x])\/∃x y,ts=[x,y]:=by
    match ts,hts with
    |[],_=>exact Or.inl rfl
    |[x],_=>exact Or.inr (Or.inl ⟨x,rfl⟩)
    |[x,y],_=>exact Or.inr (Or.inr ⟨x,y,rfl⟩)
    |x::y::z::w,h=>simp at h;omega
   rcases h7 with rfl|⟨x,rfl⟩|⟨x,y,rfl⟩
   .simp only [I8] at hts
    refine ipp (e:=(i:Int)) (o2:=0) 0 V rfl (by decide) ?_;unfold three;refine gr ?_;exact ⟨O l2,by simp at hk;omega,i+1,q+O a.flat,l1++[a],l2,[(a.typ ty).1],_,_,_,_,_,_,_,_,_,_,rfl,by simp only [three,Bk,V8,kU],by simp [EZ],rfl,by simp [hl],D,by simpa using e1,e2,h6,V⟩
   .simp only [q7,I8] at hts
    refine ipp (e:=(i:Int)) (o2:=1) 1 V rfl (by decide) ?_;unfold three;refine gr ?_;exact ⟨O l2,by simp at hk;omega,i+1,q+O a.flat,l1++[a],l2,[x,(a.typ ty).1],_,_,_,_,_,_,_,_,_,_,rfl,by simp only [three,Bk,V8,kU],by simp [EZ],rfl,by simp [hl],D,by simpa using e1,e2,h6,V⟩
   .simp only [q7,I8] at hts
    refine ipp (e:=(i:Int)) (o2:=2) 2 V rfl (by decide) ?_;unfold three;refine gr ?_;exact ⟨O l2,by simp at hk;omega,i+1,q+O a.flat,l1++[a],l2,[x,y,(a.typ ty).1],_,_,_,_,_,_,_,_,_,_,rfl,by simp only [three,Bk,V8,kU],by simp [EZ],rfl,by simp [hl],D,by simpa using e1,e2,h6,V⟩
 .cases l2 with
  |cons a l2=>simp at hlen;omega
  |nil =>
  simp only [jY,List.append_nil] at e1 e2;have hl1:O ts=O l:=by simp at hlen;omega
  have htg:∀x,x∈ts->good x:=by rw [<- e1];exact yh uQ l hwl
  refine gr ?_;refine tb (A1 t.op 2&&bC (O ty) t.col) (λh5=>?_) (λh5=>?_)
  .simp only [c8] at h5
   have h6:A1 t.op 1=F:=by have:=aT h5.1;simp [p7];omega
   refine gr ?_;refine ⟨_,rfl,?_⟩;simp [j5,cq.typ,e2,h5,h6,Fo,c7.F4,Z,p7]
  have Pc:t.op≠2\/(0<=t.col/\t.col<O ty):=by
   cases h6:A1 t.op 2 with
   |false=>exact Or.inl (qz h6)
   |true =>
    right;have h7:A1 t.op 1=F:=by have:=aT h6;simp [p7];omega
    simp only [h6,Bool.true_and] at h5;simp only [CZ,gu,h6,h7,if_true,e8,if_false,c8] at hok;exact ⟨nD hok.2.2,vE h5⟩
  have an9:=aw0 (ty:=ty) (t:=t) (ts:=ts) htg (λh=>by simpa [h] using h5)
   (λh=>by have h8:=aT h;have h9:=aI4;unfold pY at h9;rw [h8] at h9;simp [p7,A7] at h9;omega)
   (λh=>by have h8:=aT h;have h9:=aI4;unfold pY at h9;rw [h8] at h9;simp [p7,A7] at h9;omega)
  have hz:A1 (jY ty l).2 0=W:=by rw [e2];simp [p7]
  have Vc:(cq.node t l).typ ty=if (Jp ty t (Y ts 0) (Y ts 1) (Y ts 2)).2 then ((Jp ty t (Y ts 0) (Y ts 1) (Y ts 2)).1,0) else (0,5):=by
   simp only [cq.typ,hz,if_true,e1,an9]
  unfold three;refine gc (bh2 ty t _ _ _ Pc) ?_;rw [Vc];cases h6:(Jp ty t (Y ts 0) (Y ts 1) (Y ts 2)).2 with
  |false =>
   refine tb (W) (λh7=>?_) (λh7=>?_)
   .refine gr ?_
    refine ⟨_,rfl,?_⟩;simp [j5,c7.F4,Z,p7]
   .cases h7
  |true =>
   refine tb (F) (λh7=>?_) (λh7=>?_)
   .cases h7
   refine gr ?_;refine ⟨_,rfl,?_⟩;simp only [O9,I8,Nat.add_zero] at hqe;simp [j5,c7.F4,Z,p7,hqe]
def MJ {e:List bU}{a:cq}(h:iQ e=J a):e=a.flat/\a.wf/\a.dep<=16:=by
 unfold iQ at h;split at h
 .split at h
  next b h4=>
   obtain ⟨e1,e2,e3⟩:=V1 16 e b [] h4;simp_all
  .cases h
 .cases h
set_option maxHeartbeats 2000000 in
def YR (e:List bU)(ty:List Int)(he:O e<=1000)(ht:O ty<=100000):Pf A 255 [oV e,.d (ints ty)] (pair (O1 e ty)):=by
 refine Pf.gr 8 ?_;refine tB (!iP e) ?_ (λh1=>?_) (λh1=>?_)
 .repeat' (first|refine cl (bg7 e he) ?_|refine gx ?_|refine fq (λhw=>?_) λhw=>?_|refine ⟨rfl,rfl,_,rfl,?_⟩|rfl|fail)
 .refine gr ?_
  refine ⟨_,rfl,?_⟩;simp_all [lB,iQ,O1,j5,pair,Z,c7.F4]
 rw [lB] at h1;cases h2:iQ e with
 |none=>simp_all
 |some a =>
 have h3:=MJ h2;refine gr ?_;refine Ex.Ga (λk T H=>∃(i:Nat) (v w x y z:c7),T=[oV e,.d (ints ty),v,w,x,y,z,.d (ints ty),.d (Z (O ty)),.d (Z i)]/\H=[]/\i+k=O ty/\dQ ty=dQ (ty.drop i)) M ?_ (k:=O ty) ⟨0,_,_,_,_,_,rfl,rfl,U,U⟩;rintro k _ _ ⟨i,v,w,x,y,z,rfl,rfl,hk,hi⟩;refine Ex.nT ?_;refine Ex.seq ?_;refine tl i (O ty) (λh5=>?_) (λh5=>?_)
 .rw [E3 V] at hi
  refine gr ?_;refine tb (!A1 (Y ty i) 1&& !A1 (Y ty i) 2) (λh6=>?_) (λh6=>?_)
  .refine gr ?_
   refine ⟨_,rfl,?_⟩;simp_all [dQ,c8,o8,O1,j5,pair,Z,c7.F4]
  .refine gr ?_
   refine kk ⟨i+1,_,_,_,_,_,rfl,rfl,V,?_⟩
   grind [dQ,A1,Y]
 .rw [o7 V] at hi
  have hg:dQ ty=W:=by rw [hi];rfl
  have h6:=bg8 ty hg e he (O e) a 0 [] M M h3.2.1;refine gc h6 ?_;refine ⟨_,rfl,?_⟩
  grind [O1,j5,pair,c7.F4]
def bg9 (n:Int):Pf A 288 [.d (.int .u8 n)] (.d (.bool (dF n))):=by
 refine Pf.go 1 ?_
 repeat' (first|refine gy ?_|refine fq (λhw=>?_) λhw=>?_|refine ⟨_,rfl,?_⟩|fail)
 all_goals simp_all [j5,dF]
def bh0 (n:Int):Pf A 289 [.d (.int .u8 n)] (.d (.bool (mI n))):=by
 refine Pf.go 1 ?_
 repeat' (first|refine gy ?_|refine fq (λhw=>?_) λhw=>?_|refine ⟨_,rfl,?_⟩|fail)
 all_goals simp_all [j5,mI]
def Ow (first:Bool):M6->Nat
 |[]=>0
 |c::r=>if dF c.toNat||(!first&&(mI c.toNat||A1 c.toNat 95)) then Ow F r+1 else 0
theorem Yx:∀(b:Bool) (s:M6),Ow b s<=O s
 |_,[]=>by simp [Ow]
 |b,c::r=>by
  have:=Yx F r;simp only [Ow];split<;>simp<;>omega
theorem RM:∀s:M6,(Ow F s==O s)=s.all λc=>oH c.toNat
 |[]=>rfl
 |c::r=>by
  have h1:=RM r;have h2:=Yx F r;have hc:oH c.toNat=(dF c.toNat||mI c.toNat||A1 c.toNat 95):=rfl;rw [List.all_cons,<- h1,hc];simp only [Ow,Bool.not_false,Bool.true_and];cases dF c.toNat<;>cases mI c.toNat<;>cases A1 c.toNat 95<;>simp
def Yy (s:M6):M5 s=(!Q2 s []&&bC (O s) 16&&A1 (Ow W s) (O s)):=by
 cases s with
 |nil=>simp [M5,I5]
 |cons c r =>
  have h1:=RM r;have h3:Q2 (c::r) []=F:=by simp [I5]
  have hc:oH c.toNat=(dF c.toNat||mI c.toNat||A1 c.toNat 95):=rfl;simp only [M5,h3,Bool.not_false,Bool.true_and,Ow,Bool.not_true,Bool.false_and,Bool.or_false];rw [List.all_cons,<- h1,hc];cases h:dF c.toNat with
  |false=>simp [p7];intros;omega
  |true =>
   simp only [if_true,Bool.and_true,Bool.true_or,Bool.true_and];have e1:J2 (O r) 16=bC (O (c::r)) 16:=by
    simp only [A5,A7,q7];exact decide_eq_decide.2 V
   have e2:(Ow F r==O r)=A1 (Ow F r+1:Nat) (O (c::r)):=by
    simp only [p7,q7];rw [Bool.eq_iff_iff];simp only [beq_iff_eq];omega
   rw [e1,e2]
set_option maxHeartbeats 2000000 in
def bg6 (s:M6)(hs:O s<=100000):Pf A 276 [.d (.str s)] (.d (Z (Ow W s))):=by
 refine Pf.gr 2 ?_;refine Ex.R8 (λk T H=>∃(i:Nat),T=[.d (.str s),.any,.d (Z i)]/\H=[]/\i+k=O s/\Ow W s=i+Ow (!J2 0 i) (s.drop i)) ?_ (k:=O s) ⟨0,rfl,rfl,U,by simp [A5]⟩;rintro k _ _ ⟨i,rfl,rfl,hk,hi⟩;refine Ex.seq ?_;refine tc (J2 i (O s)&&(dF (Y s i).toNat||(J2 0 i&&(mI (Y s i).toNat||A1 (Y s i).toNat 95)))) (And.intro bg9 bh0) (λh1=>?_) (λh1=>?_)
 .simp only [c8] at h1
  have h2:=F5 h1.1;rw [E3 V,Ow,Bool.not_not,h1.2,if_pos rfl] at hi;refine gr ?_;refine kk ⟨i+1,rfl,rfl,V,?_⟩;have h3:J2 0 ((i+1:Nat):Int)=W:=by simp only [A5,decide_eq_true_eq];omega
  rw [hi,h3,Bool.not_true];omega
 .refine gr ?_
  refine ⟨_,rfl,?_⟩;have h3:Ow (!J2 0 i) (s.drop i)=0:=by
   rcases x9 i (O s) with h|h
   .have h4:J2 i (O s)=W:=by simp [A5];omega
    rw [h4,Bool.true_and] at h1;rw [E3 h,Ow,Bool.not_not,h1];rfl
   .rw [o7 h];rfl
  rw [hi,h3];rfl
def bJ7 {s:M6}(h:bC (O s) 16=W):O s<=100000:=by have:=nD h;omega
def YQ (s:M6):Pf A 247 [.d (.str s)] (.d (.bool (M5 s))):=by
 rw [Yy];refine Pf.go 1 ?_
 repeat' (first|refine cl (bg6 s (bJ7 hw)) ?_|refine gy ?_|refine fq (λhw=>?_) λhw=>?_|refine ⟨_,rfl,?_⟩|fail)
 all_goals exact cc
end Go.Proofs.YtibjocmpkoepoaaGreat

