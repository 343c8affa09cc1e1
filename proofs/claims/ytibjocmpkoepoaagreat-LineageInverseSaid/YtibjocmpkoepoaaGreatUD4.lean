import Derived.Test.YtibjocmpkoepoaaGreatUD0
set_option linter.all false
open Bool renaming and_eq_true → c7, false_eq_true → j3, not_eq_false' → C7, not_eq_true' → n5, or_eq_false_iff → F3
open List renaming append_assoc → E8, cons_append → A5, drop_of_length_le → l5, length_append → o8, length_cons → p7, length_nil → A3, map_cons → F4
open Nat renaming lt_or_ge → y4
namespace Go.Proofs.YtibjocmpkoepoaaGreat
open Go.x9 Go.x9.S
attribute [local irreducible] Rx Ry Rn Ex Pf
set_option maxHeartbeats 4000000 in
def ae7 (t:Y6):Pf A 292 [trm t] (.d (.bool (yu t))):=by
 refine Pf.run [trm t,.any,.any] rfl rfl rfl rfl ?_
 repeat' (first|refine cl (UL _) ?_|refine cl (aI4 _ _ _) ?_|refine gx ?_|refine fk (h1:=fun hw=> ?_) (h2:=fun hw=> ?_)|refine R8 (h1:=fun hw=> ?_) (h2:=fun hw=> ?_)|refine Ex.O6 ?_|refine Ex.P0 ?_|refine Ex.cond rfl (fun ht=> ?_) (fun ht=> ?_)|refine Ex.test (Rn.text ?_)|refine Ex.test (Rn.draw ?_)|refine ⟨_,rfl,fun ht=> ?_,fun ht=> ?_⟩|refine ⟨_,rfl,?_⟩|fail)
 all_goals simp only [j7,yu,cS,zeroV, *]
 all_goals simp [*,o6,H7,Bool.and_comm,Bool.and_left_comm,Bool.and_assoc]
 done
def gm (e:List Y6)(p:Nat):Nat×Nat:=match M9 (e.length+1) (e.drop p) with
 |none=>(0,p)
 |some (a,r)=>(a.dep,e.length - r.length)
def tc (e:List Y6)(k m p:Nat):Option (Nat×Nat):=match eo (M9 e.length) k (e.drop p) with
 |none=>none
 |some (l,r)=>some (max m (lS l),e.length - r.length)
def Fa (a:aH):0<a.dep:=by
 cases a;simp [aH.dep]
def wS (e:List Y6)(p:Nat)(hp:0<p):(gm e p=(0,p)/\M9 e.length (e.drop p)=none)\/∃ (q:Nat) (a:aH),gm e p=(a.dep,q)/\q<=e.length/\p<=q/\M9 e.length (e.drop p)=some (a,e.drop q):=by
 have h0:M9 (e.length+1) (e.drop p)=M9 e.length (e.drop p):=FJ (by simp;omega) (by simp);simp only [gm,h0]
 rcases rC e e.length p with ⟨h1,h2⟩|⟨q,h1,h3,h4,a,h2⟩
 .exact Or.inl ⟨by rw [h2],h2⟩
 .refine Or.inr ⟨q,a,?_,h3,h4,h2⟩
  rw [h2];simp only [List.length_drop]
  congr 1
  omega
def Mm {e:List Y6}{k m p:Nat}(hp:0<p):tc e (k+1) m p=if (gm e p).1=0 then none else tc e k (max m (gm e p).1) (gm e p).2:=by
 rcases wS e p hp with ⟨h1,h2⟩|⟨q,a,h1,_,_,h2⟩
 .simp only [tc,eo,h2,h1,if_true]
 .have:=Fa a
  rw [h1,if_neg (by simp only;omega)];simp only [tc,eo,h2];cases eo (M9 e.length) k (e.drop q) with
  |none=>rfl
  |some x =>
   obtain ⟨l,r⟩:=x;simp only [lS,Option.some.injEq,Prod.mk.injEq,and_true];omega
def Mn {e:List Y6}{p:Nat}(hp:p<e.length)(h:yu (nth e p)=true):gm e p=match tc e (nq (nth e p).op).toNat 0 (p+1) with
  |none=>(0,p)
  |some (d,q)=>(d+1,q):=by
 simp only [gm,tc];rw [B9 hp,M9,h,if_pos rfl];cases eo (M9 e.length) (nq (nth e p).op).toNat (e.drop (p+1)) with
 |none=>rfl
 |some x =>
  obtain ⟨l,r⟩:=x;simp [aH.dep]
def Ai {e:List Y6}{p:Nat}(h:e.length<=p\/yu (nth e p)=false):gm e p=(0,p):=by
 simp only [gm]
 rcases h with h|h
 .rw [l5 h]
  rfl
 .rcases y4 p e.length with hp|hp
  .rw [B9 hp,M9,h,if_neg (by simp)]
  .rw [l5 hp]
   rfl
set_option maxHeartbeats 4000000 in
def aI1 (e:List Y6)(he:e.length<=1000):∀ m p:Nat,e.length<=p+m->p<=2000->Pf A 283 [aW e,.d (num p)] (.tuple [.d (num (gm e p).1),.d (num (gm e p).2)]):=by
 intro m
 induction m with
 |zero =>
  intro p hm hp;refine Pf.run [aW e,.d (num p),.any,.any,.any,.any,.any,.any,.any,.any] rfl rfl rfl rfl ?_;refine gr ?_;refine tB (true) ?_ (fun h1=> ?_) (fun h1=> ?_)
  .repeat' (first|refine cl (ae7 _) ?_|refine gx ?_|refine fk (h1:=fun hw=> ?_) (h2:=fun hw=> ?_)|refine R8 (h1:=fun hw=> ?_) (h2:=fun hw=> ?_)|refine ⟨rfl,rfl,_,rfl,?_⟩|refine ⟨rfl,rfl⟩|fail)
   all_goals exact cc
  .refine gr ?_
   exact ⟨_,rfl,by rw [Ai (Or.inl (by omega))];rfl⟩
  .cases h1
 |succ m ih =>
  intro p hm hp;refine Pf.run [aW e,.d (num p),.any,.any,.any,.any,.any,.any,.any,.any] rfl rfl rfl rfl ?_;refine gr ?_;refine tB (ah e.length p|| !yu (nth e p)) ?_ (fun h1=> ?_) (fun h1=> ?_)
  .repeat' (first|refine cl (ae7 _) ?_|refine gx ?_|refine fk (h1:=fun hw=> ?_) (h2:=fun hw=> ?_)|refine R8 (h1:=fun hw=> ?_) (h2:=fun hw=> ?_)|refine ⟨rfl,rfl,_,rfl,?_⟩|refine ⟨rfl,rfl⟩|fail)
   all_goals exact cc
  .refine gr ?_
   refine ⟨_,rfl,?_⟩;rw [Ai]
   .rfl
   .simp only [Bool.or_eq_true,n5] at h1
    rcases h1 with h|h
    .have:=qD h;left;omega
    .exact Or.inr h
  simp only [F3,C7] at h1;have h2:=Ac h1.1;have h3:=pE (nth e p).op;have h4:0<=nq (nth e p).op:=by
   have:=h1.2;simp only [yu,c7,n5] at this;exact B8 this.1
  repeat' (first|refine clT (UL _) (h2:= ?_)|refine gx ?_|fail)
  refine Ex.M5 (fun k T H=>∃ (i q d:Nat) (v2 v3 v6 v7:c8),T=[aW e,.d (num p),v2,v3,.d (num d),.d (num q),v6,v7,.d (num (nq (nth e p).op)),.d (num i)]/\H=[]/\(i:Int)+k=nq (nth e p).op/\p<q/\q<=e.length/\d<=2000/\gm e p=(match tc e k d q with|none=>(0,p)|some (d,q)=>(d+1,q))) (by rintro _ _ _ ⟨_,_,_,_,_,_,_,_,rfl,_⟩;rfl) ?_ (k:=(nq (nth e p).op).toNat) ⟨0,p+1,0,_,_,_,_,rfl,rfl,by omega,by omega,by omega,by omega,Mn (by omega) h1.2⟩;rintro k _ _ ⟨i,q,d,v2,v3,v6,v7,rfl,rfl,hk,hpq,hq,hd,hi⟩;refine Ex.nT ?_;refine Ex.seq ?_;refine tb (F0 i (nq (nth e p).op)) (fun h5=> ?_) (fun h5=> ?_)
  .have h6:=A9 h5
   obtain ⟨k,rfl⟩:∃ k',k=k' +1:=⟨k - 1,by omega⟩;rw [Mm (by omega)] at hi;have h7:=ih q (by omega) (by omega)
   rcases wS e q (by omega) with ⟨e1,_⟩|⟨q',a,e1,e2,e3,e4⟩
   .rw [e1] at hi h7
    rw [if_pos rfl] at hi
    repeat' (first|refine cl (h7) ?_|refine gx ?_|fail)
    refine tb (true) (fun h8=> ?_) (fun h8=> ?_)
    .refine gr ?_
     exact ⟨_,rfl,by rw [hi];rfl⟩
    .cases h8
   .rw [e1] at hi h7
    have e5:=Fa a;have e6:a.dep<=1000:=by
     have:=(T1 _ _ _ _ e4).2.2;omega
    rw [if_neg (by simp only;omega)] at hi
    repeat' (first|refine cl (h7) ?_|refine gx ?_|fail)
    refine tb (false) (fun h8=> ?_) (fun h8=> ?_)
    .cases h8
    refine gr ?_;have e7:(if (a.dep:Int)>(d:Int) then (a.dep:Int) else (d:Int))=((max d a.dep:Nat):Int):=by split<;>omega
    exact ⟨k,by omega,i+1,q',max d a.dep,_,_,_,_,by rw [<- e7];rfl,rfl,by omega,by omega,e2,by omega,hi⟩
  .have h6:=B8 h5
   obtain rfl:k=0:=by omega
   refine gr ?_;refine ⟨_,rfl,?_⟩;have h8:tc e 0 d q=some (d,q):=by
    simp only [tc,eo,lS,List.length_drop,Option.some.injEq,Prod.mk.injEq];omega
   rw [hi,h8];rfl
set_option maxHeartbeats 2000000 in
def UK (e:List Y6)(he:e.length<=1000):Pf A 262 [aW e] (.d (.bool (Z6 e))):=by
 have h0:=aI1 e he e.length 0 (by omega) (by omega);refine Pf.run [aW e,.any,.any,.any] rfl rfl rfl rfl ?_
 repeat' (first|refine df ?_|refine gx ?_|fail)
 refine tb (F0 64 e.length) (fun h1=> ?_) (fun h1=> ?_)
 .refine gr ?_
  refine ⟨_,rfl,?_⟩;have:=A9 h1;have:Z6 e=false:=by simp [Z6,s9];omega
  rw [this];rfl
 have h2:=B8 h1;have h3:Z6 e=(F0 0 (gm e 0).1&&ah (gm e 0).1 16&&s8 (gm e 0).2 e.length):=by
  rw [fJ];have h4:(fK e).isSome=(decide (1<=e.length)&&(match M9 16 e with|some (_,[])=>true|_=>false)):=by
   unfold fK
   by_cases h5:1<=e.length
   .have:(ah 1 e.length&&ah e.length 64)=true:=by simp [s9];omega
    rw [this,if_pos rfl];simp only [h5,decide_true,Bool.true_and];split<;>simp_all
   .have:(ah 1 e.length&&ah e.length 64)=false:=by simp [s9];omega
    rw [this,if_neg (by simp)];simp [h5]
  rw [h4];simp only [gm,List.drop_zero];cases h5:M9 (e.length+1) e with
  |none =>
   have h6:M9 16 e=none:=by
    cases h7:M9 16 e with
    |none=>rfl
    |some x =>
     obtain ⟨a,r⟩:=x;obtain ⟨g1,g2,g3⟩:=T1 16 e a r h7;have:=nK a;have hl:a.flat.length<=e.length:=by rw [g1];simp
     have:=Y1 a (e.length+1) r g2 (by omega);rw [<- g1,h5] at this;cases this
   simp [h6,y3]
  |some x =>
   obtain ⟨a,r⟩:=x;obtain ⟨g1,g2,g3⟩:=T1 _ e a r h5;have hp:=Fa a;have hf:=iM a;have hl:a.flat.length+r.length=e.length:=by rw [g1];simp
   by_cases h7:a.dep<=16
   .have:=Y1 a 16 r g2 h7
    rw [<- g1] at this;rw [this];cases r with
    |nil =>
     have e1:decide (1<=e.length)=true:=by simp at hl ⊢;omega
     have e2:F0 0 a.dep=true:=by simp only [y3,decide_eq_true_eq];omega
     have e3:ah a.dep 16=true:=by simp only [s9,decide_eq_true_eq];omega
     have e4:s8 ((e.length - ([]:List Y6).length:Nat):Int) e.length=true:=by simp [o6]
     simp only [e1,e2,e3,e4,Bool.and_self]
    |cons t r =>
     have e4:s8 ((e.length - (t::r).length:Nat):Int) e.length=false:=by simp only [o6,beq_eq_false_iff_ne];simp only [p7] at hl ⊢;omega
     simp only [e4,Bool.and_false]
   .have h8:M9 16 e=none:=by
     cases h9:M9 16 e with
     |none=>rfl
     |some y =>
      obtain ⟨b,s⟩:=y;obtain ⟨k1,k2,k3⟩:=T1 16 e b s h9;have hfb:=nK b;have mY:b.flat.length<=e.length:=by rw [k1];simp
      have:=Y1 b (e.length+1) s k2 (by omega);rw [<- k1,h5] at this;cases this;exact absurd k3 h7
    rw [h8];simp [y3,s9,o6];omega
 rw [h3]
 repeat' (first|refine cl (h0) ?_|refine gx ?_|refine fk (h1:=fun hw=> ?_) (h2:=fun hw=> ?_)|refine R8 (h1:=fun hw=> ?_) (h2:=fun hw=> ?_)|refine Ex.O6 ?_|refine Ex.P0 ?_|refine Ex.cond rfl (fun ht=> ?_) (fun ht=> ?_)|refine Ex.test (Rn.text ?_)|refine Ex.test (Rn.draw ?_)|refine ⟨_,rfl,fun ht=> ?_,fun ht=> ?_⟩|refine ⟨_,rfl,?_⟩|fail)
 all_goals exact cc
set_option maxHeartbeats 16000000 in
def aI2 (ty:List Int)(t:Y6)(a b c:Int)(hc:t.op≠2\/(0<=t.col/\t.col<ty.length)):Pf A 291 [trm t,.agg [.d (num a),.d (num b),.d (num c)],.d (ints ty)] (.tuple [.d (num (FN ty t a b c).1),.d (.bool (FN ty t a b c).2)]):=by
 refine Pf.run [trm t,.agg [.d (num a),.d (num b),.d (num c)],.d (ints ty),.any,.any,.any,.any,.any,.any,.any,.any,.any,.any] rfl rfl rfl rfl ?_
 repeat' (first|refine gx ?_|refine fk (h1:=fun hw=> ?_) (h2:=fun hw=> ?_)|refine R8 (h1:=fun hw=> ?_) (h2:=fun hw=> ?_)|refine Ex.O6 ?_|refine Ex.P0 ?_|refine Ex.cond rfl (fun ht=> ?_) (fun ht=> ?_)|refine Ex.test (Rn.text ?_)|refine Ex.test (Rn.draw ?_)|refine ⟨_,rfl,fun ht=> ?_,fun ht=> ?_⟩|refine ⟨_,rfl,?_⟩|fail)
 all_goals simp only [j7,FN, *,F4,List.map_nil,c8.J2]
 all_goals simp [*,num]
def three (ts:List Int):List c8:=[.d (num (nth ts 0)),.d (num (nth ts 1)),.d (num (nth ts 2))]
set_option maxHeartbeats 8000000 in
def aH8 (ty:List Int)(yh:bG ty=true)(e:List Y6)(he:e.length<=1000):∀ (n:Nat) (a:aH) (p:Nat) (r:List Y6),a.flat.length<=n->e.drop p=a.flat++r->a.wf ->
  Pf A 281 [aW e,.d (num p),.d (ints ty)] (.tuple [.d (num (a.typ ty).1),.d (num (if s8 (a.typ ty).2 0 then ((p+a.flat.length:Nat):Int) else 0)),.d (num (a.typ ty).2)]):=by
 intro n
 induction n with
 |zero=>intro a p r h;have:=iM a;omega
 |succ n ih =>
 rintro ⟨t,l⟩ p r hn hp hw;simp only [aH.flat] at hn hp ⊢;have hpe:(t::M3 l).length+r.length+p=e.length:=by
  have:=congrArg List.length hp;have h2:p<e.length:=by
   rcases y4 p e.length with h|h
   .exact h
   .rw [l5 h] at hp;cases hp
  simp at this ⊢;omega
 have HY:p<e.length:=by simp at hpe;omega
 have h0:nth e p=t/\e.drop (p+1)=M3 l++r:=by
  rw [B9 HY] at hp;simp only [A5,List.cons.injEq] at hp;exact hp
 obtain ⟨h0,hp1⟩:=h0;obtain ⟨hok,har,Ia⟩:=hw;have hl3:l.length<=3:=by have:=pE t.op;omega
 have ak0:nq t.op=l.length:=by
  simp only [yu,c7,n5] at hok;have:=B8 hok.1;omega
 refine Pf.run [aW e,.d (num p),.d (ints ty),.any,.any,.any,.any,.any,.any,.any,.any,.any,.any,.any,.any,.any,.any] rfl rfl rfl rfl ?_;refine gr ?_;rw [h0];refine gr ?_;refine clT (UL t.op) (h2:= ?_);rw [ak0];refine gr ?_;refine Ex.M5 (fun k T H=>∃ (i q:Nat) (l1 l2:List aH) (ts:List Int) (v1 v3 v4 v5 v9 v10 v11 v12 v13 v14:c8),T=[aW e,v1,.d (ints ty),v3,v4,v5,.ptr 0 0,.d (num q),.ptr 1 0,v9,v10,v11,v12,v13,v14,.d (num l.length),.d (num i)]/\H=[.cells (t.enc.map .d),.cells (three ts)]/\i=l1.length/\k=l2.length/\l=l1++l2/\ts.length=i/\(gv ty l).1=ts++(gv ty l2).1/\(gv ty l).2=(gv ty l2).2/\e.drop q=M3 l2++r/\q+(M3 l2).length=p+(t::M3 l).length) (by rintro _ _ _ ⟨_,_,_,_,_,_,_,_,_,_,_,_,_,_,_,_,rfl,_⟩;rfl) ?_ (k:=l.length) ⟨0,p+1,[],l,[],_,_,_,_,_,_,_,_,_,_,rfl,by simp only [three,yq];rfl,rfl,rfl,rfl,rfl,rfl,rfl,hp1,by simp;omega⟩;rintro k _ _ ⟨i,q,l1,l2,ts,v1,v3,v4,v5,v9,v10,v11,v12,v13,v14,rfl,rfl,wJ,hk,hl,hts,e1,e2,hq,hqe⟩;have hlen:l.length=l1.length+l2.length:=by rw [hl];simp
 refine Ex.nT ?_;refine Ex.seq ?_;refine tb (F0 i l.length) (fun h3=> ?_) (fun h3=> ?_)
 .have h4:=A9 h3
  cases l2 with
  |nil=>simp at hlen;omega
  |cons a l2 =>
  have ha:a ∈ l:=by rw [hl];simp
  have gj:=ih a q (M3 l2++r) (by have:=zR ha;simp at hn;omega) (by rw [hq];simp [M3]) (Nc Ia ha);simp only [gv] at e1 e2;simp only [M3,o8] at hqe
  repeat' (first|refine cl (gj) ?_|refine gx ?_|fail)
  refine tb (!s8 (a.typ ty).2 0) (fun h5=> ?_) (fun h5=> ?_)
  .simp only [n5] at h5
   simp only [h5,j3,if_false] at e1 e2;refine gr ?_;refine ⟨_,rfl,?_⟩;simp [j7,aH.typ,e2,h5,c8.J2,num]
  .simp only [C7] at h5
   simp only [h5,if_true] at e1 e2 ⊢;refine gr ?_;have h6:e.drop (q+a.flat.length)=M3 l2++r:=by
    rw [<- List.drop_drop,hq,M3,E8,List.drop_left]
   have h7:ts=[]\/(∃ x,ts=[x])\/∃ x y,ts=[x,y]:=by
    match ts,hts with
    |[],_=>exact Or.inl rfl
    |[x],_=>exact Or.inr (Or.inl ⟨x,rfl⟩)
    |[x,y],_=>exact Or.inr (Or.inr ⟨x,y,rfl⟩)
    |x::y::z::w,h=>simp at h;omega
   rcases h7 with rfl|⟨x,rfl⟩|⟨x,y,rfl⟩
   .simp only [A3] at hts
    refine ipp (e:=(i:Int)) (o2:=0) 0 (by omega) rfl (by decide) ?_;unfold three;refine gr ?_;exact ⟨l2.length,by simp at hk;omega,i+1,q+a.flat.length,l1++[a],l2,[(a.typ ty).1],_,_,_,_,_,_,_,_,_,_,rfl,by simp only [three,yq,V0,oq],by simp [wJ],rfl,by simp [hl],by simp;omega,by simpa using e1,e2,h6,by omega⟩
   .simp only [p7,A3] at hts
    refine ipp (e:=(i:Int)) (o2:=1) 1 (by omega) rfl (by decide) ?_;unfold three;refine gr ?_;exact ⟨l2.length,by simp at hk;omega,i+1,q+a.flat.length,l1++[a],l2,[x,(a.typ ty).1],_,_,_,_,_,_,_,_,_,_,rfl,by simp only [three,yq,V0,oq],by simp [wJ],rfl,by simp [hl],by simp;omega,by simpa using e1,e2,h6,by omega⟩
   .simp only [p7,A3] at hts
    refine ipp (e:=(i:Int)) (o2:=2) 2 (by omega) rfl (by decide) ?_;unfold three;refine gr ?_;exact ⟨l2.length,by simp at hk;omega,i+1,q+a.flat.length,l1++[a],l2,[x,y,(a.typ ty).1],_,_,_,_,_,_,_,_,_,_,rfl,by simp only [three,yq,V0,oq],by simp [wJ],rfl,by simp [hl],by simp;omega,by simpa using e1,e2,h6,by omega⟩
 .have h4:=B8 h3
  cases l2 with
  |cons a l2=>simp at hlen;omega
  |nil =>
  simp only [gv,List.append_nil] at e1 e2;have NH:ts.length=l.length:=by simp at hlen;omega
  have htg:∀ x,x ∈ ts->good x:=by rw [<- e1];exact vR yh l Ia
  refine gr ?_;refine tb (s8 t.op 2&&ah ty.length t.col) (fun h5=> ?_) (fun h5=> ?_)
  .simp only [c7] at h5
   have h6:s8 t.op 1=false:=by have:=aQ h5.1;simp [o6];omega
   refine gr ?_;refine ⟨_,rfl,?_⟩;simp [j7,aH.typ,e2,h5,h6,Bq,c8.J2,num,o6]
  have QJ:t.op≠2\/(0<=t.col/\t.col<ty.length):=by
   cases h6:s8 t.op 2 with
   |false=>exact Or.inl (CQ h6)
   |true =>
    right;have h7:s8 t.op 1=false:=by have:=aQ h6;simp [o6];omega
    simp only [h6,Bool.true_and] at h5;simp only [yu,cS,h6,h7,if_true,j3,if_false,c7] at hok;exact ⟨qD hok.2.2,Ac h5⟩
  have bh6:=ZF (ty:=ty) (t:=t) (ts:=ts) htg (fun h=>by simpa [h] using h5)
   (fun h=>by have h8:=aQ h;have h9:=ak0;unfold nq at h9;rw [h8] at h9;simp [o6,s9] at h9;omega)
   (fun h=>by have h8:=aQ h;have h9:=ak0;unfold nq at h9;rw [h8] at h9;simp [o6,s9] at h9;omega)
  have hz:s8 (gv ty l).2 0=true:=by rw [e2];simp [o6]
  have zZ:(aH.node t l).typ ty=if (FN ty t (nth ts 0) (nth ts 1) (nth ts 2)).2 then ((FN ty t (nth ts 0) (nth ts 1) (nth ts 2)).1,0) else (0,5):=by
   simp only [aH.typ,hz,if_true,e1,bh6]
  unfold three
  repeat' (first|refine cl (aI2 ty t _ _ _ QJ) ?_|refine gx ?_|fail)
  rw [zZ];cases h6:(FN ty t (nth ts 0) (nth ts 1) (nth ts 2)).2 with
  |false =>
   refine tb (true) (fun h7=> ?_) (fun h7=> ?_)
   .refine gr ?_
    refine ⟨_,rfl,?_⟩;simp [j7,c8.J2,num,o6]
   .cases h7
  |true =>
   refine tb (false) (fun h7=> ?_) (fun h7=> ?_)
   .cases h7
   refine gr ?_;refine ⟨_,rfl,?_⟩;simp only [M3,A3,Nat.add_zero] at hqe;simp [j7,c8.J2,num,o6,hqe]
def xx {e:List Y6}{a:aH}(h:fK e=some a):e=a.flat/\a.wf/\a.dep<=16:=by
 unfold fK at h;split at h
 .split at h
  .rename_i b h4
   obtain ⟨e1,e2,e3⟩:=T1 16 e b [] h4;cases h;exact ⟨by simpa using e1,e2,e3⟩
  .cases h
 .cases h
set_option maxHeartbeats 2000000 in
def IV (e:List Y6)(ty:List Int)(he:e.length<=1000)(ht:ty.length<=100000):Pf A 255 [aW e,.d (ints ty)] (pair (G7 e ty)):=by
 refine Pf.run [aW e,.d (ints ty),.any,.any,.any,.any,.any,.any,.any,.any] rfl rfl rfl rfl ?_;refine gr ?_;refine tB (!Z6 e) ?_ (fun h1=> ?_) (fun h1=> ?_)
 .repeat' (first|refine cl (UK e he) ?_|refine gx ?_|refine fk (h1:=fun hw=> ?_) (h2:=fun hw=> ?_)|refine R8 (h1:=fun hw=> ?_) (h2:=fun hw=> ?_)|refine ⟨rfl,rfl,_,rfl,?_⟩|refine ⟨rfl,rfl⟩|fail)
  all_goals exact cc
 .refine gr ?_
  refine ⟨_,rfl,?_⟩;rw [fJ] at h1;cases h2:fK e with
  |none=>simp [G7,h2,j7,pair,num,c8.J2]
  |some a=>simp [h2] at h1
 rw [fJ] at h1;cases h2:fK e with
 |none=>simp [h2] at h1
 |some a =>
 have h3:=xx h2;refine gr ?_;refine Ex.M5 (fun k T H=>∃ (i:Nat) (v w x y z:c8),T=[aW e,.d (ints ty),v,w,x,y,z,.d (ints ty),.d (num ty.length),.d (num i)]/\H=[]/\i+k=ty.length/\bG ty=bG (ty.drop i)) (by rintro _ _ _ ⟨_,_,_,_,_,_,_,rfl,_⟩;rfl) ?_ (k:=ty.length) ⟨0,_,_,_,_,_,rfl,rfl,by simp,by simp⟩;rintro k _ _ ⟨i,v,w,x,y,z,rfl,rfl,hk,hi⟩;refine Ex.nT ?_;refine Ex.seq ?_;refine tb (F0 i ty.length) (fun h4=> ?_) (fun h4=> ?_)
 .have h5:=A9 h4
  rw [B9 (by omega)] at hi;refine gr ?_;refine tb (!s8 (nth ty i) 1&& !s8 (nth ty i) 2) (fun h6=> ?_) (fun h6=> ?_)
  .refine gr ?_
   refine ⟨_,rfl,?_⟩;have h7:bG ty=false:=by
    rw [hi];simp only [c7,n5] at h6;simp [bG,h6]
   simp [G7,h2,h7,j7,pair,num,c8.J2]
  .refine gr ?_
   refine ⟨k - 1,by omega,i+1,_,_,_,_,_,rfl,rfl,by omega,?_⟩;rw [hi];simp only [bG,List.all_cons];cases h7:s8 (nth ty i) 1<;>cases h8:s8 (nth ty i) 2<;>simp_all
 .have h5:=B8 h4
  rw [l5 (by omega)] at hi;have hg:bG ty=true:=by rw [hi];rfl
  have h6:=aH8 ty hg e he e.length a 0 [] (by rw [h3.1];omega) (by rw [<- h3.1];simp) h3.2.1
  repeat' (first|refine cl (h6) ?_|refine gx ?_|fail)
  refine ⟨_,rfl,?_⟩;simp [G7,h2,hg,j7,pair,c8.J2]
def aH9 (n:Int):Pf A 288 [.d (.int .u8 n)] (.d (.bool (bU n))):=by
 refine Pf.run [.d (.int .u8 n),.any] rfl rfl rfl rfl ?_
 repeat' (first|refine gx ?_|refine fk (h1:=fun hw=> ?_) (h2:=fun hw=> ?_)|refine R8 (h1:=fun hw=> ?_) (h2:=fun hw=> ?_)|refine Ex.O6 ?_|refine Ex.P0 ?_|refine Ex.cond rfl (fun ht=> ?_) (fun ht=> ?_)|refine Ex.test (Rn.text ?_)|refine Ex.test (Rn.draw ?_)|refine ⟨_,rfl,fun ht=> ?_,fun ht=> ?_⟩|refine ⟨_,rfl,?_⟩|fail)
 all_goals simp_all [j7,bU]
def aI0 (n:Int):Pf A 289 [.d (.int .u8 n)] (.d (.bool (jQ n))):=by
 refine Pf.run [.d (.int .u8 n),.any] rfl rfl rfl rfl ?_
 repeat' (first|refine gx ?_|refine fk (h1:=fun hw=> ?_) (h2:=fun hw=> ?_)|refine R8 (h1:=fun hw=> ?_) (h2:=fun hw=> ?_)|refine Ex.O6 ?_|refine Ex.P0 ?_|refine Ex.cond rfl (fun ht=> ?_) (fun ht=> ?_)|refine Ex.test (Rn.text ?_)|refine Ex.test (Rn.draw ?_)|refine ⟨_,rfl,fun ht=> ?_,fun ht=> ?_⟩|refine ⟨_,rfl,?_⟩|fail)
 all_goals simp_all [j7,jQ]
def Lm (first:Bool):L3->Nat
 |[]=>0
 |c::r=>if bU c.toNat||(!first&&(jQ c.toNat||s8 c.toNat 95)) then Lm false r+1 else 0
theorem Uu:∀ (b:Bool) (s:L3),Lm b s<=s.length
 |_,[]=>by simp [Lm]
 |b,c::r=>by
  have:=Uu false r;simp only [Lm];split<;>simp<;>omega
theorem NW:∀ s:L3,(Lm false s==s.length)=s.all fun c=>me c.toNat
 |[]=>rfl
 |c::r=>by
  have h1:=NW r;have h2:=Uu false r;have hc:me c.toNat=(bU c.toNat||jQ c.toNat||s8 c.toNat 95):=rfl;rw [List.all_cons,<- h1,hc];simp only [Lm,Bool.not_false,Bool.true_and];cases bU c.toNat<;>cases jQ c.toNat<;>cases s8 c.toNat 95<;>simp
def Uv (s:L3):H6 s=(!M0 s []&&ah s.length 16&&s8 (Lm true s) s.length):=by
 cases s with
 |nil=>simp [H6,H7]
 |cons c r =>
  have h1:=NW r;have h3:M0 (c::r) []=false:=by simp [H7]
  have hc:me c.toNat=(bU c.toNat||jQ c.toNat||s8 c.toNat 95):=rfl;simp only [H6,h3,Bool.not_false,Bool.true_and,Lm,Bool.not_true,Bool.false_and,Bool.or_false];rw [List.all_cons,<- h1,hc];cases h:bU c.toNat with
  |false=>simp [o6];intros;omega
  |true =>
   simp only [if_true,Bool.and_true,Bool.true_or,Bool.true_and];have e1:F0 r.length 16=ah (c::r).length 16:=by
    simp only [y3,s9,p7];exact decide_eq_decide.2 (by omega)
   have e2:(Lm false r==r.length)=s8 (Lm false r+1:Nat) (c::r).length:=by
    simp only [o6,p7];rw [Bool.eq_iff_iff];simp only [beq_iff_eq];omega
   rw [e1,e2]
set_option maxHeartbeats 2000000 in
def aH7 (s:L3)(hs:s.length<=100000):Pf A 276 [.d (.str s)] (.d (num (Lm true s))):=by
 refine Pf.run [.d (.str s),.any,.any] rfl rfl rfl rfl ?_;refine gr ?_;refine Ex.M5 (fun k T H=>∃ (i:Nat) (v:c8),T=[.d (.str s),v,.d (num i)]/\H=[]/\i+k=s.length/\Lm true s=i+Lm (!F0 0 i) (s.drop i)) (by rintro _ _ _ ⟨_,_,_,rfl,_⟩;rfl) ?_ (k:=s.length) ⟨0,_,rfl,rfl,by simp,by simp [y3]⟩;rintro k _ _ ⟨i,v,rfl,rfl,hk,hi⟩;refine Ex.nT ?_;refine Ex.seq ?_;refine tB (F0 i s.length&&(bU (nth s i).toNat||(F0 0 i&&(jQ (nth s i).toNat||s8 (nth s i).toNat 95)))) ?_ (fun h1=> ?_) (fun h1=> ?_)
 .repeat' (first|refine cl (aH9 _) ?_|refine cl (aI0 _) ?_|refine gx ?_|refine fk (h1:=fun hw=> ?_) (h2:=fun hw=> ?_)|refine R8 (h1:=fun hw=> ?_) (h2:=fun hw=> ?_)|refine ⟨rfl,rfl,_,rfl,?_⟩|refine ⟨rfl,rfl⟩|fail)
  all_goals exact cc
 .simp only [c7] at h1
  have h2:=A9 h1.1;rw [B9 (by omega),Lm,Bool.not_not,h1.2,if_pos rfl] at hi;refine gr ?_;refine ⟨k - 1,by omega,i+1,_,rfl,rfl,by omega,?_⟩;have h3:F0 0 ((i+1:Nat):Int)=true:=by simp only [y3,decide_eq_true_eq];omega
  rw [hi,h3,Bool.not_true];omega
 .refine gr ?_
  refine ⟨_,rfl,?_⟩;have h3:Lm (!F0 0 i) (s.drop i)=0:=by
   rcases y4 i s.length with h|h
   .have h4:F0 i s.length=true:=by simp [y3];omega
    rw [h4,Bool.true_and] at h1;rw [B9 h,Lm,Bool.not_not,h1];rfl
   .rw [l5 h];rfl
  rw [hi,h3];rfl
def bj3 {s:L3}(h:ah s.length 16=true):s.length<=100000:=by have:=qD h;omega
def Dx (s:L3):Pf A 247 [.d (.str s)] (.d (.bool (H6 s))):=by
 rw [Uv];refine Pf.run [.d (.str s),.any] rfl rfl rfl rfl ?_
 repeat' (first|refine cl (aH7 s (bj3 hw)) ?_|refine gx ?_|refine fk (h1:=fun hw=> ?_) (h2:=fun hw=> ?_)|refine R8 (h1:=fun hw=> ?_) (h2:=fun hw=> ?_)|refine Ex.O6 ?_|refine Ex.P0 ?_|refine Ex.cond rfl (fun ht=> ?_) (fun ht=> ?_)|refine Ex.test (Rn.text ?_)|refine Ex.test (Rn.draw ?_)|refine ⟨_,rfl,fun ht=> ?_,fun ht=> ?_⟩|refine ⟨_,rfl,?_⟩|fail)
 all_goals exact cc
end Go.Proofs.YtibjocmpkoepoaaGreat

