import Derived.Test.YtibjocmpkoepoaaGreatD0
set_option linter.all false
open Bool renaming and_eq_true → c7, false_eq_true → j4, not_eq_false' → C8, not_eq_true' → o7, or_eq_false_iff → G8
open List renaming append_assoc → D2, cons_append → F8, drop_of_length_le → l6, length_append → k9, length_cons → p8, length_nil → y8, map_cons → L8
open Nat renaming lt_or_ge → A5
namespace Go.Proofs.YtibjocmpkoepoaaGreat
open Go.A2 Go.A2.S
attribute [local irreducible] Rx Ry Rn Ex Pf
set_option maxHeartbeats 4000000 in
def ar1 (t:X0):Pf A 292 [trm t] (.d (.bool (zW t))):=by
 refine Pf.run [trm t,.any,.any] rfl rfl rfl rfl ?_
 repeat' (first|refine cl (Xc _) ?_|refine cl (aZ5 _ _ _) ?_|refine gx ?_|refine fk (h1:=fun hw=> ?_) (h2:=fun hw=> ?_)|refine U1 (h1:=fun hw=> ?_) (h2:=fun hw=> ?_)|refine Ex.M8 ?_|refine Ex.N6 ?_|refine Ex.cond rfl (fun ht=> ?_) (fun ht=> ?_)|refine Ex.test (Rn.text ?_)|refine Ex.test (Rn.draw ?_)|refine ⟨_,rfl,fun ht=> ?_,fun ht=> ?_⟩|refine ⟨_,rfl,?_⟩|fail)
 all_goals simp only [j3,zW,dY,zeroV, *]
 all_goals simp [*,o8,E5,Bool.and_comm,Bool.and_left_comm,Bool.and_assoc]
 done
def iF (e:List X0)(p:Nat):Nat×Nat:=match O6 (e.length+1) (e.drop p) with
 |none=>(0,p)
 |some (a,r)=>(a.dep,e.length - r.length)
def uB (e:List X0)(k m p:Nat):Option (Nat×Nat):=match fJ (O6 e.length) k (e.drop p) with
 |none=>none
 |some (l,r)=>some (max m (nJ l),e.length - r.length)
def GB (a:bg):0<a.dep:=by
 cases a;simp [bg.dep]
def yl (e:List X0)(p:Nat)(hp:0<p):(iF e p=(0,p)/\O6 e.length (e.drop p)=none)\/∃ (q:Nat) (a:bg),iF e p=(a.dep,q)/\q<=e.length/\p<=q/\O6 e.length (e.drop p)=some (a,e.drop q):=by
 have h0:O6 (e.length+1) (e.drop p)=O6 e.length (e.drop p):=Hp (by simp;omega) (by simp);simp only [iF,h0]
 rcases tg e e.length p with ⟨h1,h2⟩|⟨q,h1,h3,h4,a,h2⟩
 .exact Or.inl ⟨by rw [h2],h2⟩
 .refine Or.inr ⟨q,a,?_,h3,h4,h2⟩
  rw [h2];simp only [List.length_drop]
  congr 1
  omega
def NQ {e:List X0}{k m p:Nat}(hp:0<p):uB e (k+1) m p=if (iF e p).1=0 then none else uB e k (max m (iF e p).1) (iF e p).2:=by
 rcases yl e p hp with ⟨h1,h2⟩|⟨q,a,h1,_,_,h2⟩
 .simp only [uB,fJ,h2,h1,if_true]
 .have:=GB a
  rw [h1,if_neg (by simp only;omega)];simp only [uB,fJ,h2];cases fJ (O6 e.length) k (e.drop q) with
  |none=>rfl
  |some x =>
   obtain ⟨l,r⟩:=x;simp only [nJ,Option.some.injEq,Prod.mk.injEq,and_true];omega
def NR {e:List X0}{p:Nat}(hp:p<e.length)(h:zW (nth e p)=true):iF e p=match uB e (oP (nth e p).op).toNat 0 (p+1) with
  |none=>(0,p)
  |some (d,q)=>(d+1,q):=by
 simp only [iF,uB];rw [D3 hp,O6,h,if_pos rfl];cases fJ (O6 e.length) (oP (nth e p).op).toNat (e.drop (p+1)) with
 |none=>rfl
 |some x =>
  obtain ⟨l,r⟩:=x;simp [bg.dep]
def Bw {e:List X0}{p:Nat}(h:e.length<=p\/zW (nth e p)=false):iF e p=(0,p):=by
 simp only [iF]
 rcases h with h|h
 .rw [l6 h]
  rfl
 .rcases A5 p e.length with hp|hp
  .rw [D3 hp,O6,h,if_neg (by simp)]
  .rw [l6 hp]
   rfl
set_option maxHeartbeats 4000000 in
def aZ2 (e:List X0)(he:e.length<=1000):∀ m p:Nat,e.length<=p+m->p<=2000->Pf A 283 [aD e,.d (num p)] (.tuple [.d (num (iF e p).1),.d (num (iF e p).2)]):=by
 intro m
 induction m with
 |zero =>
  intro p hm hp;refine Pf.run [aD e,.d (num p),.any,.any,.any,.any,.any,.any,.any,.any] rfl rfl rfl rfl ?_;refine gr ?_;refine tB (true) ?_ (fun h1=> ?_) (fun h1=> ?_)
  .repeat' (first|refine cl (ar1 _) ?_|refine gx ?_|refine fk (h1:=fun hw=> ?_) (h2:=fun hw=> ?_)|refine U1 (h1:=fun hw=> ?_) (h2:=fun hw=> ?_)|refine ⟨rfl,rfl,_,rfl,?_⟩|refine ⟨rfl,rfl⟩|fail)
   all_goals exact cc
  .refine gr ?_
   exact ⟨_,rfl,by rw [Bw (Or.inl (by omega))];rfl⟩
  .cases h1
 |succ m ih =>
  intro p hm hp;refine Pf.run [aD e,.d (num p),.any,.any,.any,.any,.any,.any,.any,.any] rfl rfl rfl rfl ?_;refine gr ?_;refine tB (bV e.length p|| !zW (nth e p)) ?_ (fun h1=> ?_) (fun h1=> ?_)
  .repeat' (first|refine cl (ar1 _) ?_|refine gx ?_|refine fk (h1:=fun hw=> ?_) (h2:=fun hw=> ?_)|refine U1 (h1:=fun hw=> ?_) (h2:=fun hw=> ?_)|refine ⟨rfl,rfl,_,rfl,?_⟩|refine ⟨rfl,rfl⟩|fail)
   all_goals exact cc
  .refine gr ?_
   refine ⟨_,rfl,?_⟩;rw [Bw]
   .rfl
   .simp only [Bool.or_eq_true,o7] at h1
    rcases h1 with h|h
    .have:=rW h;left;omega
    .exact Or.inr h
  simp only [G8,C8] at h1;have h2:=Bp h1.1;have h3:=qM (nth e p).op;have h4:0<=oP (nth e p).op:=by
   have:=h1.2;simp only [zW,c7,o7] at this;exact A3 this.1
  repeat' (first|refine clT (Xc _) (h2:= ?_)|refine gx ?_|fail)
  refine Ex.I7 (fun k T H=>∃ (i q d:Nat) (v2 v3 v6 v7:c8),T=[aD e,.d (num p),v2,v3,.d (num d),.d (num q),v6,v7,.d (num (oP (nth e p).op)),.d (num i)]/\H=[]/\(i:Int)+k=oP (nth e p).op/\p<q/\q<=e.length/\d<=2000/\iF e p=(match uB e k d q with|none=>(0,p)|some (d,q)=>(d+1,q))) (by rintro _ _ _ ⟨_,_,_,_,_,_,_,_,rfl,_⟩;rfl) ?_ (k:=(oP (nth e p).op).toNat) ⟨0,p+1,0,_,_,_,_,rfl,rfl,by omega,by omega,by omega,by omega,NR (by omega) h1.2⟩;rintro k _ _ ⟨i,q,d,v2,v3,v6,v7,rfl,rfl,hk,hpq,hq,hd,hi⟩;refine Ex.nT ?_;refine Ex.seq ?_;refine tb (E4 i (oP (nth e p).op)) (fun h5=> ?_) (fun h5=> ?_)
  .have h6:=A6 h5
   obtain ⟨k,rfl⟩:∃ k',k=k' +1:=⟨k - 1,by omega⟩;rw [NQ (by omega)] at hi;have h7:=ih q (by omega) (by omega)
   rcases yl e q (by omega) with ⟨e1,_⟩|⟨q',a,e1,e2,e3,e4⟩
   .rw [e1] at hi h7
    rw [if_pos rfl] at hi
    repeat' (first|refine cl (h7) ?_|refine gx ?_|fail)
    refine tb (true) (fun h8=> ?_) (fun h8=> ?_)
    .refine gr ?_
     exact ⟨_,rfl,by rw [hi];rfl⟩
    .cases h8
   .rw [e1] at hi h7
    have e5:=GB a;have e6:a.dep<=1000:=by
     have:=(U3 _ _ _ _ e4).2.2;omega
    rw [if_neg (by simp only;omega)] at hi
    repeat' (first|refine cl (h7) ?_|refine gx ?_|fail)
    refine tb (false) (fun h8=> ?_) (fun h8=> ?_)
    .cases h8
    refine gr ?_;have e7:(if (a.dep:Int)>(d:Int) then (a.dep:Int) else (d:Int))=((max d a.dep:Nat):Int):=by split<;>omega
    exact ⟨k,by omega,i+1,q',max d a.dep,_,_,_,_,by rw [<- e7];rfl,rfl,by omega,by omega,e2,by omega,hi⟩
  .have h6:=A3 h5
   obtain rfl:k=0:=by omega
   refine gr ?_;refine ⟨_,rfl,?_⟩;have h8:uB e 0 d q=some (d,q):=by
    simp only [uB,fJ,nJ,List.length_drop,Option.some.injEq,Prod.mk.injEq];omega
   rw [hi,h8];rfl
set_option maxHeartbeats 2000000 in
def Xb (e:List X0)(he:e.length<=1000):Pf A 262 [aD e] (.d (.bool (X7 e))):=by
 have h0:=aZ2 e he e.length 0 (by omega) (by omega);refine Pf.run [aD e,.any,.any,.any] rfl rfl rfl rfl ?_
 repeat' (first|refine df ?_|refine gx ?_|fail)
 refine tb (E4 64 e.length) (fun h1=> ?_) (fun h1=> ?_)
 .refine gr ?_
  refine ⟨_,rfl,?_⟩;have:=A6 h1;have:X7 e=false:=by simp [X7,s6];omega
  rw [this];rfl
 have h2:=A3 h1;have h3:X7 e=(E4 0 (iF e 0).1&&bV (iF e 0).1 16&&s9 (iF e 0).2 e.length):=by
  rw [gQ];have h4:(gR e).isSome=(decide (1<=e.length)&&(match O6 16 e with|some (_,[])=>true|_=>false)):=by
   unfold gR
   by_cases h5:1<=e.length
   .have:(bV 1 e.length&&bV e.length 64)=true:=by simp [s6];omega
    rw [this,if_pos rfl];simp only [h5,decide_true,Bool.true_and];split<;>simp_all
   .have:(bV 1 e.length&&bV e.length 64)=false:=by simp [s6];omega
    rw [this,if_neg (by simp)];simp [h5]
  rw [h4];simp only [iF,List.drop_zero];cases h5:O6 (e.length+1) e with
  |none =>
   have h6:O6 16 e=none:=by
    cases h7:O6 16 e with
    |none=>rfl
    |some x =>
     obtain ⟨a,r⟩:=x;obtain ⟨g1,g2,g3⟩:=U3 16 e a r h7;have:=pn a;have hl:a.flat.length<=e.length:=by rw [g1];simp
     have:=Y7 a (e.length+1) r g2 (by omega);rw [<- g1,h5] at this;cases this
   simp [h6,u0]
  |some x =>
   obtain ⟨a,r⟩:=x;obtain ⟨g1,g2,g3⟩:=U3 _ e a r h5;have hp:=GB a;have hf:=jN a;have hl:a.flat.length+r.length=e.length:=by rw [g1];simp
   by_cases h7:a.dep<=16
   .have:=Y7 a 16 r g2 h7
    rw [<- g1] at this;rw [this];cases r with
    |nil =>
     have e1:decide (1<=e.length)=true:=by simp at hl ⊢;omega
     have e2:E4 0 a.dep=true:=by simp only [u0,decide_eq_true_eq];omega
     have e3:bV a.dep 16=true:=by simp only [s6,decide_eq_true_eq];omega
     have e4:s9 ((e.length - ([]:List X0).length:Nat):Int) e.length=true:=by simp [o8]
     simp only [e1,e2,e3,e4,Bool.and_self]
    |cons t r =>
     have e4:s9 ((e.length - (t::r).length:Nat):Int) e.length=false:=by simp only [o8,beq_eq_false_iff_ne];simp only [p8] at hl ⊢;omega
     simp only [e4,Bool.and_false]
   .have h8:O6 16 e=none:=by
     cases h9:O6 16 e with
     |none=>rfl
     |some y =>
      obtain ⟨b,s⟩:=y;obtain ⟨k1,k2,k3⟩:=U3 16 e b s h9;have hfb:=pn b;have qU:b.flat.length<=e.length:=by rw [k1];simp
      have:=Y7 b (e.length+1) s k2 (by omega);rw [<- k1,h5] at this;cases this;exact absurd k3 h7
    rw [h8];simp [u0,s6,o8];omega
 rw [h3]
 repeat' (first|refine cl (h0) ?_|refine gx ?_|refine fk (h1:=fun hw=> ?_) (h2:=fun hw=> ?_)|refine U1 (h1:=fun hw=> ?_) (h2:=fun hw=> ?_)|refine Ex.M8 ?_|refine Ex.N6 ?_|refine Ex.cond rfl (fun ht=> ?_) (fun ht=> ?_)|refine Ex.test (Rn.text ?_)|refine Ex.test (Rn.draw ?_)|refine ⟨_,rfl,fun ht=> ?_,fun ht=> ?_⟩|refine ⟨_,rfl,?_⟩|fail)
 all_goals exact cc
set_option maxHeartbeats 16000000 in
def aZ3 (ty:List Int)(t:X0)(a b c:Int)(hc:t.op≠2\/(0<=t.col/\t.col<ty.length)):Pf A 291 [trm t,.agg [.d (num a),.d (num b),.d (num c)],.d (ints ty)] (.tuple [.d (num (Hv ty t a b c).1),.d (.bool (Hv ty t a b c).2)]):=by
 refine Pf.run [trm t,.agg [.d (num a),.d (num b),.d (num c)],.d (ints ty),.any,.any,.any,.any,.any,.any,.any,.any,.any,.any] rfl rfl rfl rfl ?_
 repeat' (first|refine gx ?_|refine fk (h1:=fun hw=> ?_) (h2:=fun hw=> ?_)|refine U1 (h1:=fun hw=> ?_) (h2:=fun hw=> ?_)|refine Ex.M8 ?_|refine Ex.N6 ?_|refine Ex.cond rfl (fun ht=> ?_) (fun ht=> ?_)|refine Ex.test (Rn.text ?_)|refine Ex.test (Rn.draw ?_)|refine ⟨_,rfl,fun ht=> ?_,fun ht=> ?_⟩|refine ⟨_,rfl,?_⟩|fail)
 all_goals simp only [j3,Hv, *,L8,List.map_nil,c8.J3]
 all_goals simp [*,num]
def three (ts:List Int):List c8:=[.d (num (nth ts 0)),.d (num (nth ts 1)),.d (num (nth ts 2))]
set_option maxHeartbeats 8000000 in
def aY9 (ty:List Int)(tu:dx ty=true)(e:List X0)(he:e.length<=1000):∀ (n:Nat) (a:bg) (p:Nat) (r:List X0),a.flat.length<=n->e.drop p=a.flat++r->a.wf ->
  Pf A 281 [aD e,.d (num p),.d (ints ty)] (.tuple [.d (num (a.typ ty).1),.d (num (if s9 (a.typ ty).2 0 then ((p+a.flat.length:Nat):Int) else 0)),.d (num (a.typ ty).2)]):=by
 intro n
 induction n with
 |zero=>intro a p r h;have:=jN a;omega
 |succ n ih =>
 rintro ⟨t,l⟩ p r hn hp hw;simp only [bg.flat] at hn hp ⊢;have hpe:(t::N7 l).length+r.length+p=e.length:=by
  have:=congrArg List.length hp;have h2:p<e.length:=by
   rcases A5 p e.length with h|h
   .exact h
   .rw [l6 h] at hp;cases hp
  simp at this ⊢;omega
 have Bj:p<e.length:=by simp at hpe;omega
 have h0:nth e p=t/\e.drop (p+1)=N7 l++r:=by
  rw [D3 Bj] at hp;simp only [F8,List.cons.injEq] at hp;exact hp
 obtain ⟨h0,hp1⟩:=h0;obtain ⟨hok,har,ZK⟩:=hw;have hl3:l.length<=3:=by have:=qM t.op;omega
 have ax3:oP t.op=l.length:=by
  simp only [zW,c7,o7] at hok;have:=A3 hok.1;omega
 refine Pf.run [aD e,.d (num p),.d (ints ty),.any,.any,.any,.any,.any,.any,.any,.any,.any,.any,.any,.any,.any,.any] rfl rfl rfl rfl ?_;refine gr ?_;rw [h0];refine gr ?_;refine clT (Xc t.op) (h2:= ?_);rw [ax3];refine gr ?_;refine Ex.I7 (fun k T H=>∃ (i q:Nat) (l1 l2:List bg) (ts:List Int) (v1 v3 v4 v5 v9 v10 v11 v12 v13 v14:c8),T=[aD e,v1,.d (ints ty),v3,v4,v5,.ptr 0 0,.d (num q),.ptr 1 0,v9,v10,v11,v12,v13,v14,.d (num l.length),.d (num i)]/\H=[.cells (t.enc.map .d),.cells (three ts)]/\i=l1.length/\k=l2.length/\l=l1++l2/\ts.length=i/\(iH ty l).1=ts++(iH ty l2).1/\(iH ty l).2=(iH ty l2).2/\e.drop q=N7 l2++r/\q+(N7 l2).length=p+(t::N7 l).length) (by rintro _ _ _ ⟨_,_,_,_,_,_,_,_,_,_,_,_,_,_,_,_,rfl,_⟩;rfl) ?_ (k:=l.length) ⟨0,p+1,[],l,[],_,_,_,_,_,_,_,_,_,_,rfl,by simp only [three,zV];rfl,rfl,rfl,rfl,rfl,rfl,rfl,hp1,by simp;omega⟩;rintro k _ _ ⟨i,q,l1,l2,ts,v1,v3,v4,v5,v9,v10,v11,v12,v13,v14,rfl,rfl,DG,hk,hl,hts,e1,e2,hq,hqe⟩;have hlen:l.length=l1.length+l2.length:=by rw [hl];simp
 refine Ex.nT ?_;refine Ex.seq ?_;refine tb (E4 i l.length) (fun h3=> ?_) (fun h3=> ?_)
 .have h4:=A6 h3
  cases l2 with
  |nil=>simp at hlen;omega
  |cons a l2 =>
  have ha:a ∈ l:=by rw [hl];simp
  have lD:=ih a q (N7 l2++r) (by have:=Ba ha;simp at hn;omega) (by rw [hq];simp [N7]) (OD ZK ha);simp only [iH] at e1 e2;simp only [N7,k9] at hqe
  repeat' (first|refine cl (lD) ?_|refine gx ?_|fail)
  refine tb (!s9 (a.typ ty).2 0) (fun h5=> ?_) (fun h5=> ?_)
  .simp only [o7] at h5
   simp only [h5,j4,if_false] at e1 e2;refine gr ?_;refine ⟨_,rfl,?_⟩;simp [j3,bg.typ,e2,h5,c8.J3,num]
  .simp only [C8] at h5
   simp only [h5,if_true] at e1 e2 ⊢;refine gr ?_;have h6:e.drop (q+a.flat.length)=N7 l2++r:=by
    rw [<- List.drop_drop,hq,N7,D2,List.drop_left]
   have h7:ts=[]\/(∃ x,ts=[x])\/∃ x y,ts=[x,y]:=by
    match ts,hts with
    |[],_=>exact Or.inl rfl
    |[x],_=>exact Or.inr (Or.inl ⟨x,rfl⟩)
    |[x,y],_=>exact Or.inr (Or.inr ⟨x,y,rfl⟩)
    |x::y::z::w,h=>simp at h;omega
   rcases h7 with rfl|⟨x,rfl⟩|⟨x,y,rfl⟩
   .simp only [y8] at hts
    refine ipp (e:=(i:Int)) (o2:=0) 0 (by omega) rfl (by decide) ?_;unfold three;refine gr ?_;exact ⟨l2.length,by simp at hk;omega,i+1,q+a.flat.length,l1++[a],l2,[(a.typ ty).1],_,_,_,_,_,_,_,_,_,_,rfl,by simp only [three,zV,Y6,uF],by simp [DG],rfl,by simp [hl],by simp;omega,by simpa using e1,e2,h6,by omega⟩
   .simp only [p8,y8] at hts
    refine ipp (e:=(i:Int)) (o2:=1) 1 (by omega) rfl (by decide) ?_;unfold three;refine gr ?_;exact ⟨l2.length,by simp at hk;omega,i+1,q+a.flat.length,l1++[a],l2,[x,(a.typ ty).1],_,_,_,_,_,_,_,_,_,_,rfl,by simp only [three,zV,Y6,uF],by simp [DG],rfl,by simp [hl],by simp;omega,by simpa using e1,e2,h6,by omega⟩
   .simp only [p8,y8] at hts
    refine ipp (e:=(i:Int)) (o2:=2) 2 (by omega) rfl (by decide) ?_;unfold three;refine gr ?_;exact ⟨l2.length,by simp at hk;omega,i+1,q+a.flat.length,l1++[a],l2,[x,y,(a.typ ty).1],_,_,_,_,_,_,_,_,_,_,rfl,by simp only [three,zV,Y6,uF],by simp [DG],rfl,by simp [hl],by simp;omega,by simpa using e1,e2,h6,by omega⟩
 .have h4:=A3 h3
  cases l2 with
  |cons a l2=>simp at hlen;omega
  |nil =>
  simp only [iH,List.append_nil] at e1 e2;have Tt:ts.length=l.length:=by simp at hlen;omega
  have htg:∀ x,x ∈ ts->good x:=by rw [<- e1];exact xC tu l ZK
  refine gr ?_;refine tb (s9 t.op 2&&bV ty.length t.col) (fun h5=> ?_) (fun h5=> ?_)
  .simp only [c7] at h5
   have h6:s9 t.op 1=false:=by have:=fH h5.1;simp [o8];omega
   refine gr ?_;refine ⟨_,rfl,?_⟩;simp [j3,bg.typ,e2,h5,h6,Cr,c8.J3,num,o8]
  have Ts:t.op≠2\/(0<=t.col/\t.col<ty.length):=by
   cases h6:s9 t.op 2 with
   |false=>exact Or.inl (AQ h6)
   |true =>
    right;have h7:s9 t.op 1=false:=by have:=fH h6;simp [o8];omega
    simp only [h6,Bool.true_and] at h5;simp only [zW,dY,h6,h7,if_true,j4,if_false,c7] at hok;exact ⟨rW hok.2.2,Bp h5⟩
  have by8:=ak4 (ty:=ty) (t:=t) (ts:=ts) htg (fun h=>by simpa [h] using h5)
   (fun h=>by have h8:=fH h;have h9:=ax3;unfold oP at h9;rw [h8] at h9;simp [o8,s6] at h9;omega)
   (fun h=>by have h8:=fH h;have h9:=ax3;unfold oP at h9;rw [h8] at h9;simp [o8,s6] at h9;omega)
  have hz:s9 (iH ty l).2 0=true:=by rw [e2];simp [o8]
  have Tz:(bg.node t l).typ ty=if (Hv ty t (nth ts 0) (nth ts 1) (nth ts 2)).2 then ((Hv ty t (nth ts 0) (nth ts 1) (nth ts 2)).1,0) else (0,5):=by
   simp only [bg.typ,hz,if_true,e1,by8]
  unfold three
  repeat' (first|refine cl (aZ3 ty t _ _ _ Ts) ?_|refine gx ?_|fail)
  rw [Tz];cases h6:(Hv ty t (nth ts 0) (nth ts 1) (nth ts 2)).2 with
  |false =>
   refine tb (true) (fun h7=> ?_) (fun h7=> ?_)
   .refine gr ?_
    refine ⟨_,rfl,?_⟩;simp [j3,c8.J3,num,o8]
   .cases h7
  |true =>
   refine tb (false) (fun h7=> ?_) (fun h7=> ?_)
   .cases h7
   refine gr ?_;refine ⟨_,rfl,?_⟩;simp only [N7,y8,Nat.add_zero] at hqe;simp [j3,c8.J3,num,o8,hqe]
def yJ {e:List X0}{a:bg}(h:gR e=some a):e=a.flat/\a.wf/\a.dep<=16:=by
 unfold gR at h;split at h
 .split at h
  .rename_i b h4
   obtain ⟨e1,e2,e3⟩:=U3 16 e b [] h4;simp_all
  .cases h
 .cases h
set_option maxHeartbeats 2000000 in
def WZ (e:List X0)(ty:List Int)(he:e.length<=1000)(ht:ty.length<=100000):Pf A 255 [aD e,.d (ints ty)] (pair (M5 e ty)):=by
 refine Pf.run [aD e,.d (ints ty),.any,.any,.any,.any,.any,.any,.any,.any] rfl rfl rfl rfl ?_;refine gr ?_;refine tB (!X7 e) ?_ (fun h1=> ?_) (fun h1=> ?_)
 .repeat' (first|refine cl (Xb e he) ?_|refine gx ?_|refine fk (h1:=fun hw=> ?_) (h2:=fun hw=> ?_)|refine U1 (h1:=fun hw=> ?_) (h2:=fun hw=> ?_)|refine ⟨rfl,rfl,_,rfl,?_⟩|rfl|fail)
  all_goals exact cc
 .refine gr ?_
  refine ⟨_,rfl,?_⟩;simp_all [gQ,gR,M5,j3,pair,num,c8.J3]
 rw [gQ] at h1;cases h2:gR e with
 |none=>simp_all
 |some a =>
 have h3:=yJ h2;refine gr ?_;refine Ex.I7 (fun k T H=>∃ (i:Nat) (v w x y z:c8),T=[aD e,.d (ints ty),v,w,x,y,z,.d (ints ty),.d (num ty.length),.d (num i)]/\H=[]/\i+k=ty.length/\dx ty=dx (ty.drop i)) (by simp_all) ?_ (k:=ty.length) ⟨0,_,_,_,_,_,rfl,rfl,by simp,by simp⟩;rintro k _ _ ⟨i,v,w,x,y,z,rfl,rfl,hk,hi⟩;refine Ex.nT ?_;refine Ex.seq ?_;refine tb (E4 i ty.length) (fun h4=> ?_) (fun h4=> ?_)
 .have h5:=A6 h4
  rw [D3 (by omega)] at hi;refine gr ?_;refine tb (!s9 (nth ty i) 1&& !s9 (nth ty i) 2) (fun h6=> ?_) (fun h6=> ?_)
  .refine gr ?_
   refine ⟨_,rfl,?_⟩;simp_all [dx,c7,o7,M5,j3,pair,num,c8.J3]
  .refine gr ?_
   refine ⟨k - 1,by omega,i+1,_,_,_,_,_,rfl,rfl,by omega,?_⟩
   grind [dx,s9,nth]
 .have h5:=A3 h4
  rw [l6 (by omega)] at hi;have hg:dx ty=true:=by rw [hi];rfl
  have h6:=aY9 ty hg e he e.length a 0 [] (by simp_all) (by simp_all) h3.2.1
  repeat' (first|refine cl (h6) ?_|refine gx ?_|fail)
  refine ⟨_,rfl,?_⟩
  grind [M5,j3,pair,c8.J3]
def aZ0 (n:Int):Pf A 288 [.d (.int .u8 n)] (.d (.bool (cQ n))):=by
 refine Pf.run [.d (.int .u8 n),.any] rfl rfl rfl rfl ?_
 repeat' (first|refine gx ?_|refine fk (h1:=fun hw=> ?_) (h2:=fun hw=> ?_)|refine U1 (h1:=fun hw=> ?_) (h2:=fun hw=> ?_)|refine Ex.M8 ?_|refine Ex.N6 ?_|refine Ex.cond rfl (fun ht=> ?_) (fun ht=> ?_)|refine Ex.test (Rn.text ?_)|refine Ex.test (Rn.draw ?_)|refine ⟨_,rfl,fun ht=> ?_,fun ht=> ?_⟩|refine ⟨_,rfl,?_⟩|fail)
 all_goals simp_all [j3,cQ]
def aZ1 (n:Int):Pf A 289 [.d (.int .u8 n)] (.d (.bool (lz n))):=by
 refine Pf.run [.d (.int .u8 n),.any] rfl rfl rfl rfl ?_
 repeat' (first|refine gx ?_|refine fk (h1:=fun hw=> ?_) (h2:=fun hw=> ?_)|refine U1 (h1:=fun hw=> ?_) (h2:=fun hw=> ?_)|refine Ex.M8 ?_|refine Ex.N6 ?_|refine Ex.cond rfl (fun ht=> ?_) (fun ht=> ?_)|refine Ex.test (Rn.text ?_)|refine Ex.test (Rn.draw ?_)|refine ⟨_,rfl,fun ht=> ?_,fun ht=> ?_⟩|refine ⟨_,rfl,?_⟩|fail)
 all_goals simp_all [j3,lz]
def ML (first:Bool):K4->Nat
 |[]=>0
 |c::r=>if cQ c.toNat||(!first&&(lz c.toNat||s9 c.toNat 95)) then ML false r+1 else 0
theorem WB:∀ (b:Bool) (s:K4),ML b s<=s.length
 |_,[]=>by simp [ML]
 |b,c::r=>by
  have:=WB false r;simp only [ML];split<;>simp<;>omega
theorem PO:∀ s:K4,(ML false s==s.length)=s.all fun c=>nU c.toNat
 |[]=>rfl
 |c::r=>by
  have h1:=PO r;have h2:=WB false r;have hc:nU c.toNat=(cQ c.toNat||lz c.toNat||s9 c.toNat 95):=rfl;rw [List.all_cons,<- h1,hc];simp only [ML,Bool.not_false,Bool.true_and];cases cQ c.toNat<;>cases lz c.toNat<;>cases s9 c.toNat 95<;>simp
def WC (s:K4):L3 s=(!O1 s []&&bV s.length 16&&s9 (ML true s) s.length):=by
 cases s with
 |nil=>simp [L3,E5]
 |cons c r =>
  have h1:=PO r;have h3:O1 (c::r) []=false:=by simp [E5]
  have hc:nU c.toNat=(cQ c.toNat||lz c.toNat||s9 c.toNat 95):=rfl;simp only [L3,h3,Bool.not_false,Bool.true_and,ML,Bool.not_true,Bool.false_and,Bool.or_false];rw [List.all_cons,<- h1,hc];cases h:cQ c.toNat with
  |false=>simp [o8];intros;omega
  |true =>
   simp only [if_true,Bool.and_true,Bool.true_or,Bool.true_and];have e1:E4 r.length 16=bV (c::r).length 16:=by
    simp only [u0,s6,p8];exact decide_eq_decide.2 (by omega)
   have e2:(ML false r==r.length)=s9 (ML false r+1:Nat) (c::r).length:=by
    simp only [o8,p8];rw [Bool.eq_iff_iff];simp only [beq_iff_eq];omega
   rw [e1,e2]
set_option maxHeartbeats 2000000 in
def aY8 (s:K4)(hs:s.length<=100000):Pf A 276 [.d (.str s)] (.d (num (ML true s))):=by
 refine Pf.run [.d (.str s),.any,.any] rfl rfl rfl rfl ?_;refine gr ?_;refine Ex.I7 (fun k T H=>∃ (i:Nat) (v:c8),T=[.d (.str s),v,.d (num i)]/\H=[]/\i+k=s.length/\ML true s=i+ML (!E4 0 i) (s.drop i)) (by rintro _ _ _ ⟨_,_,_,rfl,_⟩;rfl) ?_ (k:=s.length) ⟨0,_,rfl,rfl,by simp,by simp [u0]⟩;rintro k _ _ ⟨i,v,rfl,rfl,hk,hi⟩;refine Ex.nT ?_;refine Ex.seq ?_;refine tB (E4 i s.length&&(cQ (nth s i).toNat||(E4 0 i&&(lz (nth s i).toNat||s9 (nth s i).toNat 95)))) ?_ (fun h1=> ?_) (fun h1=> ?_)
 .repeat' (first|refine cl (aZ0 _) ?_|refine cl (aZ1 _) ?_|refine gx ?_|refine fk (h1:=fun hw=> ?_) (h2:=fun hw=> ?_)|refine U1 (h1:=fun hw=> ?_) (h2:=fun hw=> ?_)|refine ⟨rfl,rfl,_,rfl,?_⟩|refine ⟨rfl,rfl⟩|fail)
  all_goals exact cc
 .simp only [c7] at h1
  have h2:=A6 h1.1;rw [D3 (by omega),ML,Bool.not_not,h1.2,if_pos rfl] at hi;refine gr ?_;refine ⟨k - 1,by omega,i+1,_,rfl,rfl,by omega,?_⟩;have h3:E4 0 ((i+1:Nat):Int)=true:=by simp only [u0,decide_eq_true_eq];omega
  rw [hi,h3,Bool.not_true];omega
 .refine gr ?_
  refine ⟨_,rfl,?_⟩;have h3:ML (!E4 0 i) (s.drop i)=0:=by
   rcases A5 i s.length with h|h
   .have h4:E4 i s.length=true:=by simp [u0];omega
    rw [h4,Bool.true_and] at h1;rw [D3 h,ML,Bool.not_not,h1];rfl
   .rw [l6 h];rfl
  rw [hi,h3];rfl
def bA4 {s:K4}(h:bV s.length 16=true):s.length<=100000:=by have:=rW h;omega
def WY (s:K4):Pf A 247 [.d (.str s)] (.d (.bool (L3 s))):=by
 rw [WC];refine Pf.run [.d (.str s),.any] rfl rfl rfl rfl ?_
 repeat' (first|refine cl (aY8 s (bA4 hw)) ?_|refine gx ?_|refine fk (h1:=fun hw=> ?_) (h2:=fun hw=> ?_)|refine U1 (h1:=fun hw=> ?_) (h2:=fun hw=> ?_)|refine Ex.M8 ?_|refine Ex.N6 ?_|refine Ex.cond rfl (fun ht=> ?_) (fun ht=> ?_)|refine Ex.test (Rn.text ?_)|refine Ex.test (Rn.draw ?_)|refine ⟨_,rfl,fun ht=> ?_,fun ht=> ?_⟩|refine ⟨_,rfl,?_⟩|fail)
 all_goals exact cc
end Go.Proofs.YtibjocmpkoepoaaGreat

