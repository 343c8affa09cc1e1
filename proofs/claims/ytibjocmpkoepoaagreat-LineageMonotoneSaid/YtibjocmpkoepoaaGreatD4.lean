import Derived.Test.YtibjocmpkoepoaaGreatD0
set_option linter.all false
open Bool renaming and_eq_true → c9, false_eq_true → j5, not_eq_false' → O1, not_eq_true' → o8, not_false → M0, or_eq_false_iff → E6, or_eq_true → L5
open List renaming append_assoc → A9, cons_append → B7, drop_of_length_le → n5, length_append → n9, length_cons → q6, length_nil → B0, map_cons → E0
open Nat renaming lt_or_ge → s5
namespace Go.Proofs.YtibjocmpkoepoaaGreat
open Go.Abs Go.Abs.S
attribute [local irreducible] Rx Ry Rn Ex Pf
set_option maxHeartbeats 4000000 in
def aa6 (t:Y4):Pf A 292 [trm t] (.d (.bool (yb t))):=by
 refine Pf.run [trm t,.any,.any] rfl rfl rfl rfl ?_
 repeat' (first|refine cl (Uu _) ?_|refine cl (aE0 _ _ _) ?_|refine gx ?_|refine fk (h1:=fun hw=> ?_) (h2:=fun hw=> ?_)|refine U0 (h1:=fun hw=> ?_) (h2:=fun hw=> ?_)|refine Ex.O6 ?_|refine Ex.O8 ?_|refine Ex.cond rfl (fun ht=> ?_) (fun ht=> ?_)|refine Ex.test (Rn.text ?_)|refine Ex.test (Rn.draw ?_)|refine ⟨_,rfl,fun ht=> ?_,fun ht=> ?_⟩|refine ⟨_,rfl,?_⟩|fail)
 all_goals simp only [j9,yb,dc,zeroV, *]
 all_goals simp [*,o9,F8,Bool.and_comm,Bool.and_left_comm,Bool.and_assoc]
 done
def gu (e:List Y4)(p:Nat):Nat×Nat:=match M8 (e.length+1) (e.drop p) with
 |none=>(0,p)
 |some (a,r)=>(a.dep,e.length - r.length)
def sY (e:List Y4)(k m p:Nat):Option (Nat×Nat):=match dM (M8 e.length) k (e.drop p) with
 |none=>none
 |some (l,r)=>some (max m (lG l),e.length - r.length)
def EF (a:aL):0<a.dep:=by
 cases a;simp [aL.dep]
def wq (e:List Y4)(p:Nat)(hp:0<p):(gu e p=(0,p)/\M8 e.length (e.drop p)=none)\/∃ (q:Nat) (a:aL),gu e p=(a.dep,q)/\q<=e.length/\p<=q/\M8 e.length (e.drop p)=some (a,e.drop q):=by
 have h0:M8 (e.length+1) (e.drop p)=M8 e.length (e.drop p):=Fm (by simp;omega) (by simp);simp only [gu,h0]
 rcases rG e e.length p with ⟨h1,h2⟩|⟨q,h1,h3,h4,a,h2⟩
 .exact Or.inl ⟨by rw [h2],h2⟩
 .refine Or.inr ⟨q,a,?_,h3,h4,h2⟩
  rw [h2];simp only [List.length_drop]
  congr 1
  omega
def LJ {e:List Y4}{k m p:Nat}(hp:0<p):sY e (k+1) m p=if (gu e p).1=0 then none else sY e k (max m (gu e p).1) (gu e p).2:=by
 rcases wq e p hp with ⟨h1,h2⟩|⟨q,a,h1,_,_,h2⟩
 .simp only [sY,dM,h2,h1,if_true]
 .have:=EF a
  rw [h1,if_neg (by simp only;omega)];simp only [sY,dM,h2];cases dM (M8 e.length) k (e.drop q) with
  |none=>rfl
  |some x =>
   obtain ⟨l,r⟩:=x;simp only [lG,Option.some.injEq,Prod.mk.injEq,and_true];omega
def LK {e:List Y4}{p:Nat}(hp:p<e.length)(h:yb (nth e p)=true):gu e p=match sY e (mX (nth e p).op).toNat 0 (p+1) with
  |none=>(0,p)
  |some (d,q)=>(d+1,q):=by
 simp only [gu,sY];rw [D4 hp,M8,h,if_pos rfl];cases dM (M8 e.length) (mX (nth e p).op).toNat (e.drop (p+1)) with
 |none=>rfl
 |some x =>
  obtain ⟨l,r⟩:=x;simp [aL.dep]
def zS {e:List Y4}{p:Nat}(h:e.length<=p\/yb (nth e p)=false):gu e p=(0,p):=by
 simp only [gu]
 rcases h with h|h
 .rw [n5 h]
  rfl
 .rcases s5 p e.length with hp|hp
  .rw [D4 hp,M8,h,if_neg (by simp)]
  .rw [n5 hp]
   rfl
set_option maxHeartbeats 4000000 in
def aD7 (e:List Y4)(he:e.length<=1000):∀ m p:Nat,e.length<=p+m->p<=2000->Pf A 283 [aZ e,.d (num p)] (.tuple [.d (num (gu e p).1),.d (num (gu e p).2)]):=by
 intro m
 induction m with
 |zero =>
  intro p hm hp;refine Pf.run [aZ e,.d (num p),.any,.any,.any,.any,.any,.any,.any,.any] rfl rfl rfl rfl ?_;refine gr ?_;refine tB (true) ?_ (fun h1=> ?_) (fun h1=> ?_)
  .repeat' (first|refine cl (aa6 _) ?_|refine gx ?_|refine fk (h1:=fun hw=> ?_) (h2:=fun hw=> ?_)|refine U0 (h1:=fun hw=> ?_) (h2:=fun hw=> ?_)|refine ⟨rfl,rfl,_,rfl,?_⟩|refine ⟨rfl,rfl⟩|fail)
   all_goals exact cc
  .refine gr ?_
   exact ⟨_,rfl,by rw [zS (Or.inl (by omega))];rfl⟩
  .cases h1
 |succ m ih =>
  intro p hm hp;refine Pf.run [aZ e,.d (num p),.any,.any,.any,.any,.any,.any,.any,.any] rfl rfl rfl rfl ?_;refine gr ?_;refine tB (aF e.length p|| !yb (nth e p)) ?_ (fun h1=> ?_) (fun h1=> ?_)
  .repeat' (first|refine cl (aa6 _) ?_|refine gx ?_|refine fk (h1:=fun hw=> ?_) (h2:=fun hw=> ?_)|refine U0 (h1:=fun hw=> ?_) (h2:=fun hw=> ?_)|refine ⟨rfl,rfl,_,rfl,?_⟩|refine ⟨rfl,rfl⟩|fail)
   all_goals exact cc
  .refine gr ?_
   refine ⟨_,rfl,?_⟩;rw [zS]
   .rfl
   .simp only [L5,o8] at h1
    rcases h1 with h|h
    .have:=nV h;left;omega
    .exact Or.inr h
  simp only [E6,O1] at h1;have h2:=wm h1.1;have h3:=oS (nth e p).op;have h4:0<=mX (nth e p).op:=by
   have:=h1.2;simp only [yb,c9,o8] at this;exact C5 this.1
  repeat' (first|refine clT (Uu _) (h2:= ?_)|refine gx ?_|fail)
  refine Ex.N5 (fun k T H=>∃ (i q d:Nat) (v2 v3 v6 v7:j3),T=[aZ e,.d (num p),v2,v3,.d (num d),.d (num q),v6,v7,.d (num (mX (nth e p).op)),.d (num i)]/\H=[]/\(i:Int)+k=mX (nth e p).op/\p<q/\q<=e.length/\d<=2000/\gu e p=(match sY e k d q with|none=>(0,p)|some (d,q)=>(d+1,q))) (by rintro _ _ _ ⟨_,_,_,_,_,_,_,_,rfl,_⟩;rfl) ?_ (k:=(mX (nth e p).op).toNat) ⟨0,p+1,0,_,_,_,_,rfl,rfl,by omega,by omega,by omega,by omega,LK (by omega) h1.2⟩;rintro k _ _ ⟨i,q,d,v2,v3,v6,v7,rfl,rfl,hk,hpq,hq,hd,hi⟩;refine Ex.nT ?_;refine Ex.seq ?_;refine tb (F3 i (mX (nth e p).op)) (fun h5=> ?_) (fun h5=> ?_)
  .have h6:=C6 h5
   obtain ⟨k,rfl⟩:∃ k',k=k' +1:=⟨k - 1,by omega⟩;rw [LJ (by omega)] at hi;have h7:=ih q (by omega) (by omega)
   rcases wq e q (by omega) with ⟨e1,_⟩|⟨q',a,e1,e2,e3,e4⟩
   .rw [e1] at hi h7
    rw [if_pos rfl] at hi
    repeat' (first|refine cl (h7) ?_|refine gx ?_|fail)
    refine tb (true) (fun h8=> ?_) (fun h8=> ?_)
    .refine gr ?_
     exact ⟨_,rfl,by rw [hi];rfl⟩
    .cases h8
   .rw [e1] at hi h7
    have e5:=EF a;have e6:a.dep<=1000:=by
     have:=(S7 _ _ _ _ e4).2.2;omega
    rw [if_neg (by simp only;omega)] at hi
    repeat' (first|refine cl (h7) ?_|refine gx ?_|fail)
    refine tb (false) (fun h8=> ?_) (fun h8=> ?_)
    .cases h8
    refine gr ?_;have e7:(if (a.dep:Int)>(d:Int) then (a.dep:Int) else (d:Int))=((max d a.dep:Nat):Int):=by split<;>omega
    exact ⟨k,by omega,i+1,q',max d a.dep,_,_,_,_,by rw [<- e7];rfl,rfl,by omega,by omega,e2,by omega,hi⟩
  .have h6:=C5 h5
   obtain rfl:k=0:=by omega
   refine gr ?_;refine ⟨_,rfl,?_⟩;have h8:sY e 0 d q=some (d,q):=by
    simp only [sY,dM,lG,List.length_drop,Option.some.injEq,Prod.mk.injEq];omega
   rw [hi,h8];rfl
set_option maxHeartbeats 2000000 in
def Ut (e:List Y4)(he:e.length<=1000):Pf A 262 [aZ e] (.d (.bool (ak e))):=by
 have h0:=aD7 e he e.length 0 (by omega) (by omega);refine Pf.run [aZ e,.any,.any,.any] rfl rfl rfl rfl ?_
 repeat' (first|refine df ?_|refine gx ?_|fail)
 refine tb (F3 64 e.length) (fun h1=> ?_) (fun h1=> ?_)
 .refine gr ?_
  refine ⟨_,rfl,?_⟩;have:=C6 h1;have:ak e=false:=by simp [ak,y3];omega
  rw [this];rfl
 have h2:=C5 h1;have h3:ak e=(F3 0 (gu e 0).1&&aF (gu e 0).1 16&&u0 (gu e 0).2 e.length):=by
  rw [fN];have h4:(fO e).isSome=(decide (1<=e.length)&&(match M8 16 e with|some (_,[])=>true|_=>false)):=by
   unfold fO
   by_cases h5:1<=e.length
   .have:(aF 1 e.length&&aF e.length 64)=true:=by simp [y3];omega
    rw [this,if_pos rfl];simp only [h5,decide_true,Bool.true_and];split<;>simp_all
   .have:(aF 1 e.length&&aF e.length 64)=false:=by simp [y3];omega
    rw [this,if_neg (by simp)];simp [h5]
  rw [h4];simp only [gu,List.drop_zero];cases h5:M8 (e.length+1) e with
  |none =>
   have h6:M8 16 e=none:=by
    cases h7:M8 16 e with
    |none=>rfl
    |some x =>
     obtain ⟨a,r⟩:=x;obtain ⟨g1,g2,g3⟩:=S7 16 e a r h7;have:=nB a;have hl:a.flat.length<=e.length:=by rw [g1];simp
     have:=X9 a (e.length+1) r g2 (by omega);rw [<- g1,h5] at this;cases this
   simp [h6,z8]
  |some x =>
   obtain ⟨a,r⟩:=x;obtain ⟨g1,g2,g3⟩:=S7 _ e a r h5;have hp:=EF a;have hf:=iS a;have hl:a.flat.length+r.length=e.length:=by rw [g1];simp
   by_cases h7:a.dep<=16
   .have:=X9 a 16 r g2 h7
    rw [<- g1] at this;rw [this];cases r with
    |nil =>
     have e1:decide (1<=e.length)=true:=by simp at hl ⊢;omega
     have e2:F3 0 a.dep=true:=by simp only [z8,decide_eq_true_eq];omega
     have e3:aF a.dep 16=true:=by simp only [y3,decide_eq_true_eq];omega
     have e4:u0 ((e.length - ([]:List Y4).length:Nat):Int) e.length=true:=by simp [o9]
     simp only [e1,e2,e3,e4,Bool.and_self]
    |cons t r =>
     have e4:u0 ((e.length - (t::r).length:Nat):Int) e.length=false:=by simp only [o9,beq_eq_false_iff_ne];simp only [q6] at hl ⊢;omega
     simp only [e4,Bool.and_false]
   .have h8:M8 16 e=none:=by
     cases h9:M8 16 e with
     |none=>rfl
     |some y =>
      obtain ⟨b,s⟩:=y;obtain ⟨k1,k2,k3⟩:=S7 16 e b s h9;have hfb:=nB b;have mK:b.flat.length<=e.length:=by rw [k1];simp
      have:=X9 b (e.length+1) s k2 (by omega);rw [<- k1,h5] at this;cases this;exact absurd k3 h7
    rw [h8];simp [z8,y3,o9];omega
 rw [h3]
 repeat' (first|refine cl (h0) ?_|refine gx ?_|refine fk (h1:=fun hw=> ?_) (h2:=fun hw=> ?_)|refine U0 (h1:=fun hw=> ?_) (h2:=fun hw=> ?_)|refine Ex.O6 ?_|refine Ex.O8 ?_|refine Ex.cond rfl (fun ht=> ?_) (fun ht=> ?_)|refine Ex.test (Rn.text ?_)|refine Ex.test (Rn.draw ?_)|refine ⟨_,rfl,fun ht=> ?_,fun ht=> ?_⟩|refine ⟨_,rfl,?_⟩|fail)
 all_goals exact cc
set_option maxHeartbeats 16000000 in
def aD8 (ty:List Int)(t:Y4)(a b c:Int)(hc:t.op≠2\/(0<=t.col/\t.col<ty.length)):Pf A 291 [trm t,.agg [.d (num a),.d (num b),.d (num c)],.d (ints ty)] (.tuple [.d (num (Ft ty t a b c).1),.d (.bool (Ft ty t a b c).2)]):=by
 refine Pf.run [trm t,.agg [.d (num a),.d (num b),.d (num c)],.d (ints ty),.any,.any,.any,.any,.any,.any,.any,.any,.any,.any] rfl rfl rfl rfl ?_
 repeat' (first|refine gx ?_|refine fk (h1:=fun hw=> ?_) (h2:=fun hw=> ?_)|refine U0 (h1:=fun hw=> ?_) (h2:=fun hw=> ?_)|refine Ex.O6 ?_|refine Ex.O8 ?_|refine Ex.cond rfl (fun ht=> ?_) (fun ht=> ?_)|refine Ex.test (Rn.text ?_)|refine Ex.test (Rn.draw ?_)|refine ⟨_,rfl,fun ht=> ?_,fun ht=> ?_⟩|refine ⟨_,rfl,?_⟩|fail)
 all_goals simp only [j9,Ft, *,E0,List.map_nil,j3.I7]
 all_goals simp [*,num]
def three (ts:List Int):List j3:=[.d (num (nth ts 0)),.d (num (nth ts 1)),.d (num (nth ts 2))]
set_option maxHeartbeats 8000000 in
def aD4 (ty:List Int)(xU:bI ty=true)(e:List Y4)(he:e.length<=1000):∀ (n:Nat) (a:aL) (p:Nat) (r:List Y4),a.flat.length<=n->e.drop p=a.flat++r->a.wf ->
  Pf A 281 [aZ e,.d (num p),.d (ints ty)] (.tuple [.d (num (a.typ ty).1),.d (num (if u0 (a.typ ty).2 0 then ((p+a.flat.length:Nat):Int) else 0)),.d (num (a.typ ty).2)]):=by
 intro n
 induction n with
 |zero=>intro a p r h;have:=iS a;omega
 |succ n ih =>
 rintro ⟨t,l⟩ p r hn hp hw;simp only [aL.flat] at hn hp ⊢;have hpe:(t::L9 l).length+r.length+p=e.length:=by
  have:=congrArg List.length hp;have h2:p<e.length:=by
   rcases s5 p e.length with h|h
   .exact h
   .rw [n5 h] at hp;cases hp
  simp at this ⊢;omega
 have Ls:p<e.length:=by simp at hpe;omega
 have h0:nth e p=t/\e.drop (p+1)=L9 l++r:=by
  rw [D4 Ls] at hp;simp only [B7,List.cons.injEq] at hp;exact hp
 obtain ⟨h0,hp1⟩:=h0;obtain ⟨hok,har,QJ⟩:=hw;have hl3:l.length<=3:=by have:=oS t.op;omega
 have ag3:mX t.op=l.length:=by
  simp only [yb,c9,o8] at hok;have:=C5 hok.1;omega
 refine Pf.run [aZ e,.d (num p),.d (ints ty),.any,.any,.any,.any,.any,.any,.any,.any,.any,.any,.any,.any,.any,.any] rfl rfl rfl rfl ?_;refine gr ?_;rw [h0];refine gr ?_;refine clT (Uu t.op) (h2:= ?_);rw [ag3];refine gr ?_;refine Ex.N5 (fun k T H=>∃ (i q:Nat) (l1 l2:List aL) (ts:List Int) (v1 v3 v4 v5 v9 v10 v11 v12 v13 v14:j3),T=[aZ e,v1,.d (ints ty),v3,v4,v5,.ptr 0 0,.d (num q),.ptr 1 0,v9,v10,v11,v12,v13,v14,.d (num l.length),.d (num i)]/\H=[.cells (t.enc.map .d),.cells (three ts)]/\i=l1.length/\k=l2.length/\l=l1++l2/\ts.length=i/\(gB ty l).1=ts++(gB ty l2).1/\(gB ty l).2=(gB ty l2).2/\e.drop q=L9 l2++r/\q+(L9 l2).length=p+(t::L9 l).length) (by rintro _ _ _ ⟨_,_,_,_,_,_,_,_,_,_,_,_,_,_,_,_,rfl,_⟩;rfl) ?_ (k:=l.length) ⟨0,p+1,[],l,[],_,_,_,_,_,_,_,_,_,_,rfl,by simp only [three,ya];rfl,rfl,rfl,rfl,rfl,rfl,rfl,hp1,by simp;omega⟩;rintro k _ _ ⟨i,q,l1,l2,ts,v1,v3,v4,v5,v9,v10,v11,v12,v13,v14,rfl,rfl,BY,hk,hl,hts,e1,e2,hq,hqe⟩;have hlen:l.length=l1.length+l2.length:=by rw [hl];simp
 refine Ex.nT ?_;refine Ex.seq ?_;refine tb (F3 i l.length) (fun h3=> ?_) (fun h3=> ?_)
 .have h4:=C6 h3
  cases l2 with
  |nil=>simp at hlen;omega
  |cons a l2 =>
  have ha:a ∈ l:=by rw [hl];simp
  have gI:=ih a q (L9 l2++r) (by have:=zv ha;simp at hn;omega) (by rw [hq];simp [L9]) (ME QJ ha);simp only [gB] at e1 e2;simp only [L9,n9] at hqe
  repeat' (first|refine cl (gI) ?_|refine gx ?_|fail)
  refine tb (!u0 (a.typ ty).2 0) (fun h5=> ?_) (fun h5=> ?_)
  .simp only [o8] at h5
   simp only [h5,j5,if_false] at e1 e2;refine gr ?_;refine ⟨_,rfl,?_⟩;simp [j9,aL.typ,e2,h5,j3.I7,num]
  .simp only [O1] at h5
   simp only [h5,if_true] at e1 e2 ⊢;refine gr ?_;have h6:e.drop (q+a.flat.length)=L9 l2++r:=by
    rw [<- List.drop_drop,hq,L9,A9,List.drop_left]
   have h7:ts=[]\/(∃ x,ts=[x])\/∃ x y,ts=[x,y]:=by
    match ts,hts with
    |[],_=>exact Or.inl rfl
    |[x],_=>exact Or.inr (Or.inl ⟨x,rfl⟩)
    |[x,y],_=>exact Or.inr (Or.inr ⟨x,y,rfl⟩)
    |x::y::z::w,h=>simp at h;omega
   rcases h7 with rfl|⟨x,rfl⟩|⟨x,y,rfl⟩
   .simp only [B0] at hts
    refine ipp (e:=(i:Int)) (o2:=0) 0 (by omega) rfl (by decide) ?_;unfold three;refine gr ?_;exact ⟨l2.length,by simp at hk;omega,i+1,q+a.flat.length,l1++[a],l2,[(a.typ ty).1],_,_,_,_,_,_,_,_,_,_,rfl,by simp only [three,ya,U9,oc],by simp [BY],rfl,by simp [hl],by simp;omega,by simpa using e1,e2,h6,by omega⟩
   .simp only [q6,B0] at hts
    refine ipp (e:=(i:Int)) (o2:=1) 1 (by omega) rfl (by decide) ?_;unfold three;refine gr ?_;exact ⟨l2.length,by simp at hk;omega,i+1,q+a.flat.length,l1++[a],l2,[x,(a.typ ty).1],_,_,_,_,_,_,_,_,_,_,rfl,by simp only [three,ya,U9,oc],by simp [BY],rfl,by simp [hl],by simp;omega,by simpa using e1,e2,h6,by omega⟩
   .simp only [q6,B0] at hts
    refine ipp (e:=(i:Int)) (o2:=2) 2 (by omega) rfl (by decide) ?_;unfold three;refine gr ?_;exact ⟨l2.length,by simp at hk;omega,i+1,q+a.flat.length,l1++[a],l2,[x,y,(a.typ ty).1],_,_,_,_,_,_,_,_,_,_,rfl,by simp only [three,ya,U9,oc],by simp [BY],rfl,by simp [hl],by simp;omega,by simpa using e1,e2,h6,by omega⟩
 .have h4:=C5 h3
  cases l2 with
  |cons a l2=>simp at hlen;omega
  |nil =>
  simp only [gB,List.append_nil] at e1 e2;have Tq:ts.length=l.length:=by simp at hlen;omega
  have htg:∀ x,x ∈ ts->good x:=by rw [<- e1];exact vv xU l QJ
  refine gr ?_;refine tb (u0 t.op 2&&aF ty.length t.col) (fun h5=> ?_) (fun h5=> ?_)
  .simp only [c9] at h5
   have h6:u0 t.op 1=false:=by have:=bz h5.1;simp [o9];omega
   refine gr ?_;refine ⟨_,rfl,?_⟩;simp [j9,aL.typ,e2,h5,h6,AZ,j3.I7,num,o9]
  have Lq:t.op≠2\/(0<=t.col/\t.col<ty.length):=by
   cases h6:u0 t.op 2 with
   |false=>exact Or.inl (GP h6)
   |true =>
    right;have h7:u0 t.op 1=false:=by have:=bz h6;simp [o9];omega
    simp only [h6,Bool.true_and] at h5;simp only [yb,dc,h6,h7,if_true,j5,if_false,c9] at hok;exact ⟨nV hok.2.2,wm h5⟩
  have aU4:=YV (ty:=ty) (t:=t) (ts:=ts) htg (fun h=>by simpa [h] using h5)
   (fun h=>by have h8:=bz h;have h9:=ag3;unfold mX at h9;rw [h8] at h9;simp [o9,y3] at h9;omega)
   (fun h=>by have h8:=bz h;have h9:=ag3;unfold mX at h9;rw [h8] at h9;simp [o9,y3] at h9;omega)
  have hz:u0 (gB ty l).2 0=true:=by rw [e2];simp [o9]
  have zI:(aL.node t l).typ ty=if (Ft ty t (nth ts 0) (nth ts 1) (nth ts 2)).2 then ((Ft ty t (nth ts 0) (nth ts 1) (nth ts 2)).1,0) else (0,5):=by
   simp only [aL.typ,hz,if_true,e1,aU4]
  unfold three
  repeat' (first|refine cl (aD8 ty t _ _ _ Lq) ?_|refine gx ?_|fail)
  rw [zI];cases h6:(Ft ty t (nth ts 0) (nth ts 1) (nth ts 2)).2 with
  |false =>
   refine tb (true) (fun h7=> ?_) (fun h7=> ?_)
   .refine gr ?_
    refine ⟨_,rfl,?_⟩;simp [j9,j3.I7,num,o9]
   .cases h7
  |true =>
   refine tb (false) (fun h7=> ?_) (fun h7=> ?_)
   .cases h7
   refine gr ?_;refine ⟨_,rfl,?_⟩;simp only [L9,B0,Nat.add_zero] at hqe;simp [j9,j3.I7,num,o9,hqe]
def wQ {e:List Y4}{a:aL}(h:fO e=some a):e=a.flat/\a.wf/\a.dep<=16:=by
 unfold fO at h;split at h
 .split at h
  .rename_i b h4
   obtain ⟨e1,e2,e3⟩:=S7 16 e b [] h4;cases h;exact ⟨by simpa using e1,e2,e3⟩
  .cases h
 .cases h
set_option maxHeartbeats 2000000 in
def Ik (e:List Y4)(ty:List Int)(he:e.length<=1000)(ht:ty.length<=100000):Pf A 255 [aZ e,.d (ints ty)] (pair (H7 e ty)):=by
 refine Pf.run [aZ e,.d (ints ty),.any,.any,.any,.any,.any,.any,.any,.any] rfl rfl rfl rfl ?_;refine gr ?_;refine tB (!ak e) ?_ (fun h1=> ?_) (fun h1=> ?_)
 .repeat' (first|refine cl (Ut e he) ?_|refine gx ?_|refine fk (h1:=fun hw=> ?_) (h2:=fun hw=> ?_)|refine U0 (h1:=fun hw=> ?_) (h2:=fun hw=> ?_)|refine ⟨rfl,rfl,_,rfl,?_⟩|refine ⟨rfl,rfl⟩|fail)
  all_goals exact cc
 .refine gr ?_
  refine ⟨_,rfl,?_⟩;rw [fN] at h1;cases h2:fO e with
  |none=>simp [H7,h2,j9,pair,num,j3.I7]
  |some a=>simp [h2] at h1
 rw [fN] at h1;cases h2:fO e with
 |none=>simp [h2] at h1
 |some a =>
 have h3:=wQ h2;refine gr ?_;refine Ex.N5 (fun k T H=>∃ (i:Nat) (v w x y z:j3),T=[aZ e,.d (ints ty),v,w,x,y,z,.d (ints ty),.d (num ty.length),.d (num i)]/\H=[]/\i+k=ty.length/\bI ty=bI (ty.drop i)) (by rintro _ _ _ ⟨_,_,_,_,_,_,_,rfl,_⟩;rfl) ?_ (k:=ty.length) ⟨0,_,_,_,_,_,rfl,rfl,by simp,by simp⟩;rintro k _ _ ⟨i,v,w,x,y,z,rfl,rfl,hk,hi⟩;refine Ex.nT ?_;refine Ex.seq ?_;refine tb (F3 i ty.length) (fun h4=> ?_) (fun h4=> ?_)
 .have h5:=C6 h4
  rw [D4 (by omega)] at hi;refine gr ?_;refine tb (!u0 (nth ty i) 1&& !u0 (nth ty i) 2) (fun h6=> ?_) (fun h6=> ?_)
  .refine gr ?_
   refine ⟨_,rfl,?_⟩;have h7:bI ty=false:=by
    rw [hi];simp only [c9,o8] at h6;simp [bI,h6]
   simp [H7,h2,h7,j9,pair,num,j3.I7]
  .refine gr ?_
   refine ⟨k - 1,by omega,i+1,_,_,_,_,_,rfl,rfl,by omega,?_⟩;rw [hi];simp only [bI,List.all_cons];cases h7:u0 (nth ty i) 1<;>cases h8:u0 (nth ty i) 2<;>simp_all
 .have h5:=C5 h4
  rw [n5 (by omega)] at hi;have hg:bI ty=true:=by rw [hi];rfl
  have h6:=aD4 ty hg e he e.length a 0 [] (by rw [h3.1];omega) (by rw [<- h3.1];simp) h3.2.1
  repeat' (first|refine cl (h6) ?_|refine gx ?_|fail)
  refine ⟨_,rfl,?_⟩;simp [H7,h2,hg,j9,pair,j3.I7]
def aD5 (n:Int):Pf A 288 [.d (.int .u8 n)] (.d (.bool (cm n))):=by
 refine Pf.run [.d (.int .u8 n),.any] rfl rfl rfl rfl ?_
 repeat' (first|refine gx ?_|refine fk (h1:=fun hw=> ?_) (h2:=fun hw=> ?_)|refine U0 (h1:=fun hw=> ?_) (h2:=fun hw=> ?_)|refine Ex.O6 ?_|refine Ex.O8 ?_|refine Ex.cond rfl (fun ht=> ?_) (fun ht=> ?_)|refine Ex.test (Rn.text ?_)|refine Ex.test (Rn.draw ?_)|refine ⟨_,rfl,fun ht=> ?_,fun ht=> ?_⟩|refine ⟨_,rfl,?_⟩|fail)
 all_goals simp_all [j9,cm]
def aD6 (n:Int):Pf A 289 [.d (.int .u8 n)] (.d (.bool (jO n))):=by
 refine Pf.run [.d (.int .u8 n),.any] rfl rfl rfl rfl ?_
 repeat' (first|refine gx ?_|refine fk (h1:=fun hw=> ?_) (h2:=fun hw=> ?_)|refine U0 (h1:=fun hw=> ?_) (h2:=fun hw=> ?_)|refine Ex.O6 ?_|refine Ex.O8 ?_|refine Ex.cond rfl (fun ht=> ?_) (fun ht=> ?_)|refine Ex.test (Rn.text ?_)|refine Ex.test (Rn.draw ?_)|refine ⟨_,rfl,fun ht=> ?_,fun ht=> ?_⟩|refine ⟨_,rfl,?_⟩|fail)
 all_goals simp_all [j9,jO]
def KC (first:Bool):L0->Nat
 |[]=>0
 |c::r=>if cm c.toNat||(!first&&(jO c.toNat||u0 c.toNat 95)) then KC false r+1 else 0
theorem Uf:∀ (b:Bool) (s:L0),KC b s<=s.length
 |_,[]=>by simp [KC]
 |b,c::r=>by
  have:=Uf false r;simp only [KC];split<;>simp<;>omega
theorem NH:∀ s:L0,(KC false s==s.length)=s.all fun c=>lU c.toNat
 |[]=>rfl
 |c::r=>by
  have h1:=NH r;have h2:=Uf false r;have hc:lU c.toNat=(cm c.toNat||jO c.toNat||u0 c.toNat 95):=rfl;rw [List.all_cons,<- h1,hc];simp only [KC,M0,Bool.true_and];cases cm c.toNat<;>cases jO c.toNat<;>cases u0 c.toNat 95<;>simp
def Ug (s:L0):G7 s=(!L4 s []&&aF s.length 16&&u0 (KC true s) s.length):=by
 cases s with
 |nil=>simp [G7,F8]
 |cons c r =>
  have h1:=NH r;have h3:L4 (c::r) []=false:=by simp [F8]
  have hc:lU c.toNat=(cm c.toNat||jO c.toNat||u0 c.toNat 95):=rfl;simp only [G7,h3,M0,Bool.true_and,KC,Bool.not_true,Bool.false_and,Bool.or_false];rw [List.all_cons,<- h1,hc];cases h:cm c.toNat with
  |false=>simp [o9];intros;omega
  |true =>
   simp only [if_true,Bool.and_true,Bool.true_or,Bool.true_and];have e1:F3 r.length 16=aF (c::r).length 16:=by
    simp only [z8,y3,q6];exact decide_eq_decide.2 (by omega)
   have e2:(KC false r==r.length)=u0 (KC false r+1:Nat) (c::r).length:=by
    simp only [o9,q6];rw [Bool.eq_iff_iff];simp only [beq_iff_eq];omega
   rw [e1,e2]
set_option maxHeartbeats 2000000 in
def aD3 (s:L0)(hs:s.length<=100000):Pf A 276 [.d (.str s)] (.d (num (KC true s))):=by
 refine Pf.run [.d (.str s),.any,.any] rfl rfl rfl rfl ?_;refine gr ?_;refine Ex.N5 (fun k T H=>∃ (i:Nat) (v:j3),T=[.d (.str s),v,.d (num i)]/\H=[]/\i+k=s.length/\KC true s=i+KC (!F3 0 i) (s.drop i)) (by rintro _ _ _ ⟨_,_,_,rfl,_⟩;rfl) ?_ (k:=s.length) ⟨0,_,rfl,rfl,by simp,by simp [z8]⟩;rintro k _ _ ⟨i,v,rfl,rfl,hk,hi⟩;refine Ex.nT ?_;refine Ex.seq ?_;refine tB (F3 i s.length&&(cm (nth s i).toNat||(F3 0 i&&(jO (nth s i).toNat||u0 (nth s i).toNat 95)))) ?_ (fun h1=> ?_) (fun h1=> ?_)
 .repeat' (first|refine cl (aD5 _) ?_|refine cl (aD6 _) ?_|refine gx ?_|refine fk (h1:=fun hw=> ?_) (h2:=fun hw=> ?_)|refine U0 (h1:=fun hw=> ?_) (h2:=fun hw=> ?_)|refine ⟨rfl,rfl,_,rfl,?_⟩|refine ⟨rfl,rfl⟩|fail)
  all_goals exact cc
 .simp only [c9] at h1
  have h2:=C6 h1.1;rw [D4 (by omega),KC,Bool.not_not,h1.2,if_pos rfl] at hi;refine gr ?_;refine ⟨k - 1,by omega,i+1,_,rfl,rfl,by omega,?_⟩;have h3:F3 0 ((i+1:Nat):Int)=true:=by simp only [z8,decide_eq_true_eq];omega
  rw [hi,h3,Bool.not_true];omega
 .refine gr ?_
  refine ⟨_,rfl,?_⟩;have h3:KC (!F3 0 i) (s.drop i)=0:=by
   rcases s5 i s.length with h|h
   .have h4:F3 i s.length=true:=by simp [z8];omega
    rw [h4,Bool.true_and] at h1;rw [D4 h,KC,Bool.not_not,h1];rfl
   .rw [n5 h];rfl
  rw [hi,h3];rfl
def aV8 {s:L0}(h:aF s.length 16=true):s.length<=100000:=by have:=nV h;omega
def Dj (s:L0):Pf A 247 [.d (.str s)] (.d (.bool (G7 s))):=by
 rw [Ug];refine Pf.run [.d (.str s),.any] rfl rfl rfl rfl ?_
 repeat' (first|refine cl (aD3 s (aV8 hw)) ?_|refine gx ?_|refine fk (h1:=fun hw=> ?_) (h2:=fun hw=> ?_)|refine U0 (h1:=fun hw=> ?_) (h2:=fun hw=> ?_)|refine Ex.O6 ?_|refine Ex.O8 ?_|refine Ex.cond rfl (fun ht=> ?_) (fun ht=> ?_)|refine Ex.test (Rn.text ?_)|refine Ex.test (Rn.draw ?_)|refine ⟨_,rfl,fun ht=> ?_,fun ht=> ?_⟩|refine ⟨_,rfl,?_⟩|fail)
 all_goals exact cc
end Go.Proofs.YtibjocmpkoepoaaGreat

