import Derived.Test.YtibjocmpkoepoaaGreatD0
set_option linter.all false
open Bool renaming and_eq_true→c9,false_eq_true→j6,not_eq_false'→B7,not_eq_true'→o9,or_eq_false_iff→B2,true→W,false→F
open List renaming append_assoc→F5,cons_append→x4,drop_of_length_le→n5,length_append→j9,length_cons→n9,length_nil→y4,map_cons→G7,length→O
open Nat renaming lt_or_ge→y8
open Option renaming some→J,none→K
namespace Go.Proofs.YtibjocmpkoepoaaGreat
open Go.z6 Go.z6.S
attribute [local irreducible] Rx Ry Rn Ex Pf
set_option maxHeartbeats 4000000 in
def Sv (t:Q9):Pf A 292 [trm t] (.d (.bool (uO t))):=by
 refine Pf.go 2 ?_
 repeat' (first|refine cl (Nt _) ?_|refine cl (YB _ _ _) ?_|refine gy ?_|refine fq (λhw=>?_) λhw=>?_|refine ⟨_,rfl,?_⟩|fail)
 all_goals simp only [j4,uO,bG,zeroV, *]
 all_goals simp [*,o6,E2,Bool.and_comm,Bool.and_left_comm,Bool.and_assoc]
 done
def eO (e:List Q9)(p:Nat):Nat×Nat:=match L6 (O e+1) (e.drop p) with
 |none=>(0,p)
 |some (a,r)=>(a.dep,O e - O r)
def qt (e:List Q9)(k m p:Nat):Option (Nat×Nat):=match cT (L6 (O e)) k (e.drop p) with
 |none=>K
 |some (l,r)=>J (max m (jG l),O e - O r)
def AW (a:Y9):0<a.dep:=by
 cases a;simp [Y9.dep]
def tF (e:List Q9)(p:Nat)(hp:0<p):(eO e p=(0,p)/\L6 (O e) (e.drop p)=K)\/∃(q:Nat) (a:Y9),eO e p=(a.dep,q)/\q<=O e/\p<=q/\L6 (O e) (e.drop p)=J (a,e.drop q):=by
 have h0:L6 (O e+1) (e.drop p)=L6 (O e) (e.drop p):=By D U;simp only [eO,h0]
 rcases oA e (O e) p with ⟨h1,h2⟩|⟨q,h1,h3,h4,a,h2⟩
 .exact Or.inl ⟨by rw [h2],h2⟩
 .refine Or.inr ⟨q,a,?_,h3,h4,h2⟩
  rw [h2];simp only [List.length_drop]
  congr 1
  omega
def Gj {e:List Q9}{k m p:Nat}(hp:0<p):qt e (k+1) m p=if (eO e p).1=0 then K else qt e k (max m (eO e p).1) (eO e p).2:=by
 rcases tF e p hp with ⟨h1,h2⟩|⟨q,a,h1,_,_,h2⟩
 .simp only [qt,cT,h2,h1,if_true]
 .have:=AW a
  rw [h1,if_neg (by simp only;omega)];simp only [qt,cT,h2];cases cT (L6 (O e)) k (e.drop q) with
  |none=>rfl
  |some x =>
   obtain ⟨l,r⟩:=x;simp only [jG,Option.some.injEq,Prod.mk.injEq,and_true];omega
def Gk {e:List Q9}{p:Nat}(hp:p<O e)(h:uO (Y e p)=W):eO e p=match qt e (jA (Y e p).op).toNat 0 (p+1) with
  |none=>(0,p)
  |some (d,q)=>(d+1,q):=by
 simp only [eO,qt];rw [C5 hp,L6,h,if_pos rfl];cases cT (L6 (O e)) (jA (Y e p).op).toNat (e.drop (p+1)) with
 |none=>rfl
 |some x =>
  obtain ⟨l,r⟩:=x;simp [Y9.dep]
def wJ {e:List Q9}{p:Nat}(h:O e<=p\/uO (Y e p)=F):eO e p=(0,p):=by
 simp only [eO]
 rcases h with h|h
 .rw [n5 h]
  rfl
 .rcases y8 p (O e) with hp|hp
  .rw [C5 hp,L6,h,if_neg U]
  .rw [n5 hp]
   rfl
set_option maxHeartbeats 4000000 in
def Yy (e:List Q9)(he:O e<=1000):∀m p:Nat,O e<=p+m->p<=2000->Pf A 283 [cH e,.d (Z p)] (.tuple [.d (Z (eO e p).1),.d (Z (eO e p).2)]):=by
 intro m
 induction m with
 |zero =>
  intro p hm hp;refine Pf.gr 8 ?_;refine tc (W) Sv (λh1=>?_) (λh1=>?_)
  .refine gr ?_
   exact ⟨_,rfl,by rw [wJ (Or.inl V)];rfl⟩
  .cases h1
 |succ m ih =>
  intro p hm hp;refine Pf.gr 8 ?_;refine tc (U4 (O e) p|| !uO (Y e p)) Sv (λh1=>?_) (λh1=>?_)
  .refine gr ?_
   refine ⟨_,rfl,?_⟩;rw [wJ]
   .rfl
   .simp only [Bool.or_eq_true,o9] at h1
    rcases h1 with h|h
    .have:=gU h;left;omega
    .exact Or.inr h
  simp only [B2,B7] at h1;have h2:=nO h1.1;have h3:=mI (Y e p).op;have h4:0<=jA (Y e p).op:=by
   have:=h1.2;simp only [uO,c9,o9] at this;exact A9 this.1
  repeat' (first|refine clT (Nt _) (h2:=?_)|refine gx ?_|fail)
  refine Ex.Y1 (λk T H=>∃(i q d:Nat) (v2 v3 v6 v7:c7),T=[cH e,.d (Z p),v2,v3,.d (Z d),.d (Z q),v6,v7,.d (Z (jA (Y e p).op)),.d (Z i)]/\H=[]/\(i:Int)+k=jA (Y e p).op/\p<q/\q<=O e/\d<=2000/\eO e p=(match qt e k d q with|none=>(0,p)|some (d,q)=>(d+1,q))) ?_ (k:=(jA (Y e p).op).toNat) ⟨0,p+1,0,_,_,_,_,rfl,rfl,V,V,V,V,Gk V h1.2⟩;rintro k _ _ ⟨i,q,d,v2,v3,v6,v7,rfl,rfl,hk,hpq,hq,hd,hi⟩;refine Ex.nT ?_;refine Ex.seq ?_;refine tl i (jA (Y e p).op) (λh6=>?_) (λh6=>?_)
  .obtain ⟨k,rfl⟩:∃k',k=k' +1:=⟨k - 1,V⟩
   rw [Gj V] at hi;have h7:=ih q V V
   rcases tF e q V with ⟨e1,_⟩|⟨q',a,e1,e2,e3,e4⟩
   .rw [e1] at hi h7
    rw [if_pos rfl] at hi;refine gc h7 ?_;refine tb (W) (λh8=>?_) (λh8=>?_)
    .refine gr ?_
     exact ⟨_,rfl,by rw [hi];rfl⟩
    .cases h8
   .rw [e1] at hi h7
    have e5:=AW a;have e6:a.dep<=1000:=by
     have:=(R1 _ _ _ _ e4).2.2;omega
    rw [if_neg (by simp only;omega)] at hi;refine gc h7 ?_;refine tb (F) (λh8=>?_) (λh8=>?_)
    .cases h8
    refine gr ?_;have e7:(if (a.dep:Int)>(d:Int) then (a.dep:Int) else (d:Int))=((max d a.dep:Nat):Int):=by split<;>omega
    exact ⟨k,V,i+1,q',max d a.dep,_,_,_,_,by rw [<- e7];rfl,rfl,V,V,e2,V,hi⟩
  .obtain rfl:k=0:=V
   refine gr ?_;refine ⟨_,rfl,?_⟩;have h8:qt e 0 d q=J (d,q):=by
    simp only [qt,cT,jG,List.length_drop,Option.some.injEq,Prod.mk.injEq];omega
   rw [hi,h8];rfl
set_option maxHeartbeats 2000000 in
def Ns (e:List Q9)(he:O e<=1000):Pf A 262 [cH e] (.d (.bool (U1 e))):=by
 have h0:=Yy e he (O e) 0 V V;refine Pf.go 3 ?_
 repeat' (first|refine df ?_|refine gx ?_|fail)
 refine tb (D0 64 (O e)) (λh1=>?_) (λh1=>?_)
 .refine gr ?_
  refine ⟨_,rfl,?_⟩;have:=A5 h1;have:U1 e=F:=by simp [U1,r7];omega
  rw [this];rfl
 have h2:=A9 h1;have h3:U1 e=(D0 0 (eO e 0).1&&U4 (eO e 0).1 16&&s7 (eO e 0).2 (O e)):=by
  rw [ee];have h4:(ek e).isSome=(decide (1<=O e)&&(match L6 16 e with|some (_,[])=>W|_=>F)):=by
   unfold ek
   by_cases h5:1<=O e
   .have:(U4 1 (O e)&&U4 (O e) 64)=W:=by simp [r7];omega
    rw [this,if_pos rfl];simp only [h5,decide_true,Bool.true_and];split<;>simp_all
   .have:(U4 1 (O e)&&U4 (O e) 64)=F:=by simp [r7];omega
    rw [this,if_neg U];simp [h5]
  rw [h4];simp only [eO,List.drop_zero];cases h5:L6 (O e+1) e with
  |none =>
   have h6:L6 16 e=K:=by
    cases h7:L6 16 e with
    |none=>rfl
    |some x =>
     obtain ⟨a,r⟩:=x;obtain ⟨g1,g2,g3⟩:=R1 16 e a r h7;have:=lE a;have hl:O a.flat<=O e:=by rw [g1];simp
     have:=U8 a (O e+1) r g2 V;rw [<- g1,h5] at this;cases this
   simp [h6,s4]
  |some x =>
   obtain ⟨a,r⟩:=x;obtain ⟨g1,g2,g3⟩:=R1 _ e a r h5;have hp:=AW a;have hf:=gp a;have hl:O a.flat+O r=O e:=by rw [g1];simp
   by_cases h7:a.dep<=16
   .have:=U8 a 16 r g2 h7
    rw [<- g1] at this;rw [this];cases r with
    |nil =>
     have e1:decide (1<=O e)=W:=by simp at hl ⊢;omega
     have e2:D0 0 a.dep=W:=by simp only [s4,decide_eq_true_eq];omega
     have e3:U4 a.dep 16=W:=by simp only [r7,decide_eq_true_eq];omega
     have e4:s7 ((O e - O ([]:List Q9):Nat):Int) (O e)=W:=by simp [o6]
     simp only [e1,e2,e3,e4,Bool.and_self]
    |cons t r =>
     have e4:s7 ((O e - O (t::r):Nat):Int) (O e)=F:=by simp only [o6,beq_eq_false_iff_ne];simp only [n9] at hl ⊢;omega
     simp only [e4,Bool.and_false]
   .have h8:L6 16 e=K:=by
     cases h9:L6 16 e with
     |none=>rfl
     |some y =>
      obtain ⟨b,s⟩:=y;obtain ⟨k1,k2,k3⟩:=R1 16 e b s h9;have hfb:=lE b;have iZ:O b.flat<=O e:=by rw [k1];simp
      have:=U8 b (O e+1) s k2 V;rw [<- k1,h5] at this;cases this;exact absurd k3 h7
    rw [h8];simp [s4,r7,o6];omega
 rw [h3]
 repeat' (first|refine cl (h0) ?_|refine gy ?_|refine fq (λhw=>?_) λhw=>?_|refine ⟨_,rfl,?_⟩|fail)
 all_goals exact cc
set_option maxHeartbeats 16000000 in
def Yz (ty:List Int)(t:Q9)(a b c:Int)(hc:t.op≠2\/(0<=t.col/\t.col<O ty)):Pf A 291 [trm t,.agg [.d (Z a),.d (Z b),.d (Z c)],.d (ints ty)] (.tuple [.d (Z (BF ty t a b c).1),.d (.bool (BF ty t a b c).2)]):=by
 refine Pf.go 10 ?_
 repeat' (first|refine gy ?_|refine fq (λhw=>?_) λhw=>?_|refine ⟨_,rfl,?_⟩|fail)
 all_goals simp only [j4,BF, *,G7,List.map_nil,c7.I7]
 all_goals simp [*,Z]
def three (ts:List Int):List c7:=[.d (Z (Y ts 0)),.d (Z (Y ts 1)),.d (Z (Y ts 2))]
set_option maxHeartbeats 8000000 in
def Yv (ty:List Int)(nM:aR ty=W)(e:List Q9)(he:O e<=1000):∀(n:Nat) (a:Y9) (p:Nat) (r:List Q9),O a.flat<=n->e.drop p=a.flat++r->a.wf ->
  Pf A 281 [cH e,.d (Z p),.d (ints ty)] (.tuple [.d (Z (a.typ ty).1),.d (Z (if s7 (a.typ ty).2 0 then ((p+O a.flat:Nat):Int) else 0)),.d (Z (a.typ ty).2)]):=by
 intro n
 induction n with
 |zero=>intro a p r h;have:=gp a;omega
 |succ n ih =>
 rintro ⟨t,l⟩ p r hn hp hw;simp only [Y9.flat] at hn hp ⊢;have hpe:O (t::K9 l)+O r+p=O e:=by
  have:=congrArg List.length hp;have h2:p<O e:=by
   rcases y8 p (O e) with h|h
   .exact h
   .rw [n5 h] at hp;cases hp
  simp at this ⊢;omega
 have nL:p<O e:=by simp at hpe;omega
 have h0:Y e p=t/\e.drop (p+1)=K9 l++r:=by
  rw [C5 nL] at hp;simp only [x4,List.cons.injEq] at hp;exact hp
 obtain ⟨h0,hp1⟩:=h0;obtain ⟨hok,Vp,Fg⟩:=hw;have WM:O l<=3:=by have:=mI t.op;omega
 have Ts:jA t.op=O l:=by
  simp only [uO,c9,o9] at hok;have:=A9 hok.1;omega
 refine Pf.gr 14 ?_;rw [h0];refine gr ?_;refine clT (Nt t.op) (h2:=?_);rw [Ts];refine gr ?_;refine Ex.Y1 (λk T H=>∃(i q:Nat) (l1 l2:List Y9) (ts:List Int) (v1 v3 v4 v5 v9 v10 v11 v12 v13 v14:c7),T=[cH e,v1,.d (ints ty),v3,v4,v5,.ptr 0 0,.d (Z q),.ptr 1 0,v9,v10,v11,v12,v13,v14,.d (Z (O l)),.d (Z i)]/\H=[.cells (t.enc.map .d),.cells (three ts)]/\i=O l1/\k=O l2/\l=l1++l2/\O ts=i/\(eU ty l).1=ts++(eU ty l2).1/\(eU ty l).2=(eU ty l2).2/\e.drop q=K9 l2++r/\q+O (K9 l2)=p+O (t::K9 l)) ?_ (k:=O l) ⟨0,p+1,[],l,[],_,_,_,_,_,_,_,_,_,_,rfl,by simp only [three,uN];rfl,rfl,rfl,rfl,rfl,rfl,rfl,hp1,D⟩;rintro k _ _ ⟨i,q,l1,l2,ts,v1,v3,v4,v5,v9,v10,v11,v12,v13,v14,rfl,rfl,xZ,hk,hl,hts,e1,e2,hq,hqe⟩;have hlen:O l=O l1+O l2:=by rw [hl];simp
 refine Ex.nT ?_;refine Ex.seq ?_;refine tl i (O l) (λh4=>?_) (λh4=>?_)
 .cases l2 with
  |nil=>simp at hlen;omega
  |cons a l2 =>
  have ha:a∈l:=by rw [hl];simp
  have eM:=ih a q (K9 l2++r) (by have:=vZ ha;simp at hn;omega) (by rw [hq];simp [K9]) (GN Fg ha);simp only [eU] at e1 e2;simp only [K9,j9] at hqe;refine gc eM ?_;refine tb (!s7 (a.typ ty).2 0) (λh5=>?_) (λh5=>?_)
  .simp only [o9] at h5
   simp only [h5,j6,if_false] at e1 e2;refine gr ?_;refine ⟨_,rfl,?_⟩;simp [j4,Y9.typ,e2,h5,c7.I7,Z]
  .simp only [B7] at h5
   simp only [h5,if_true] at e1 e2 ⊢;refine gr ?_;have h6:e.drop (q+O a.flat)=K9 l2++r:=by
    rw [<- List.drop_drop,hq,K9,F5,List.drop_left]
   have h7:ts=[]\/(∃x,ts=[x])\/∃x y,ts=[x,y]:=by
    match ts,hts with
    |[],_=>exact Or.inl rfl
    |[x],_=>exact Or.inr (Or.inl ⟨x,rfl⟩)
    |[x,y],_=>exact Or.inr (Or.inr ⟨x,y,rfl⟩)
    |x::y::z::w,h=>simp at h;omega
   rcases h7 with rfl|⟨x,rfl⟩|⟨x,y,rfl⟩
   .simp only [y4] at hts
    refine ZS (e:=(i:Int)) (o2:=0) 0 V rfl (by decide) ?_;unfold three;refine gr ?_;exact ⟨O l2,by simp at hk;omega,i+1,q+O a.flat,l1++[a],l2,[(a.typ ty).1],_,_,_,_,_,_,_,_,_,_,rfl,by simp only [three,uN,O1,bp],by simp [xZ],rfl,by simp [hl],D,by simpa using e1,e2,h6,V⟩
   .simp only [n9,y4] at hts
    refine ZS (e:=(i:Int)) (o2:=1) 1 V rfl (by decide) ?_;unfold three;refine gr ?_;exact ⟨O l2,by simp at hk;omega,i+1,q+O a.flat,l1++[a],l2,[x,(a.typ ty).1],_,_,_,_,_,_,_,_,_,_,rfl,by simp only [three,uN,O1,bp],by simp [xZ],rfl,by simp [hl],D,by simpa using e1,e2,h6,V⟩
   .simp only [n9,y4] at hts
    refine ZS (e:=(i:Int)) (o2:=2) 2 V rfl (by decide) ?_;unfold three;refine gr ?_;exact ⟨O l2,by simp at hk;omega,i+1,q+O a.flat,l1++[a],l2,[x,y,(a.typ ty).1],_,_,_,_,_,_,_,_,_,_,rfl,by simp only [three,uN,O1,bp],by simp [xZ],rfl,by simp [hl],D,by simpa using e1,e2,h6,V⟩
 .cases l2 with
  |cons a l2=>simp at hlen;omega
  |nil =>
  simp only [eU,List.append_nil] at e1 e2;have Jr:O ts=O l:=by simp at hlen;omega
  have htg:∀x,x∈ts->good x:=by rw [<- e1];exact sB nM l Fg
  refine gr ?_;refine tb (s7 t.op 2&&U4 (O ty) t.col) (λh5=>?_) (λh5=>?_)
  .simp only [c9] at h5
   have h6:s7 t.op 1=F:=by have:=W9 h5.1;simp [o6];omega
   refine gr ?_;refine ⟨_,rfl,?_⟩;simp [j4,Y9.typ,e2,h5,h6,xM,c7.I7,Z,o6]
  have Df:t.op≠2\/(0<=t.col/\t.col<O ty):=by
   cases h6:s7 t.op 2 with
   |false=>exact Or.inl (iW h6)
   |true =>
    right;have h7:s7 t.op 1=F:=by have:=W9 h6;simp [o6];omega
    simp only [h6,Bool.true_and] at h5;simp only [uO,bG,h6,h7,if_true,j6,if_false,c9] at hok;exact ⟨gU hok.2.2,nO h5⟩
  have PT:=Rk (ty:=ty) (t:=t) (ts:=ts) htg (λh=>by simpa [h] using h5)
   (λh=>by have h8:=W9 h;have h9:=Ts;unfold jA at h9;rw [h8] at h9;simp [o6,r7] at h9;omega)
   (λh=>by have h8:=W9 h;have h9:=Ts;unfold jA at h9;rw [h8] at h9;simp [o6,r7] at h9;omega)
  have hz:s7 (eU ty l).2 0=W:=by rw [e2];simp [o6]
  have Jy:(Y9.node t l).typ ty=if (BF ty t (Y ts 0) (Y ts 1) (Y ts 2)).2 then ((BF ty t (Y ts 0) (Y ts 1) (Y ts 2)).1,0) else (0,5):=by
   simp only [Y9.typ,hz,if_true,e1,PT]
  unfold three;refine gc (Yz ty t _ _ _ Df) ?_;rw [Jy];cases h6:(BF ty t (Y ts 0) (Y ts 1) (Y ts 2)).2 with
  |false =>
   refine tb (W) (λh7=>?_) (λh7=>?_)
   .refine gr ?_
    refine ⟨_,rfl,?_⟩;simp [j4,c7.I7,Z,o6]
   .cases h7
  |true =>
   refine tb (F) (λh7=>?_) (λh7=>?_)
   .cases h7
   refine gr ?_;refine ⟨_,rfl,?_⟩;simp only [K9,y4,Nat.add_zero] at hqe;simp [j4,c7.I7,Z,o6,hqe]
def ua {e:List Q9}{a:Y9}(h:ek e=J a):e=a.flat/\a.wf/\a.dep<=16:=by
 unfold ek at h;split at h
 .split at h
  next b h4=>
   obtain ⟨e1,e2,e3⟩:=R1 16 e b [] h4;simp_all
  .cases h
 .cases h
set_option maxHeartbeats 2000000 in
def Np (e:List Q9)(ty:List Int)(he:O e<=1000)(ht:O ty<=100000):Pf A 255 [cH e,.d (ints ty)] (pair (K4 e ty)):=by
 refine Pf.gr 8 ?_;refine tB (!U1 e) ?_ (λh1=>?_) (λh1=>?_)
 .repeat' (first|refine cl (Ns e he) ?_|refine gx ?_|refine fq (λhw=>?_) λhw=>?_|refine ⟨rfl,rfl,_,rfl,?_⟩|rfl|fail)
 .refine gr ?_
  refine ⟨_,rfl,?_⟩;simp_all [ee,ek,K4,j4,pair,Z,c7.I7]
 rw [ee] at h1;cases h2:ek e with
 |none=>simp_all
 |some a =>
 have h3:=ua h2;refine gr ?_;refine Ex.gV (λk T H=>∃(i:Nat) (v w x y z:c7),T=[cH e,.d (ints ty),v,w,x,y,z,.d (ints ty),.d (Z (O ty)),.d (Z i)]/\H=[]/\i+k=O ty/\aR ty=aR (ty.drop i)) M ?_ (k:=O ty) ⟨0,_,_,_,_,_,rfl,rfl,U,U⟩;rintro k _ _ ⟨i,v,w,x,y,z,rfl,rfl,hk,hi⟩;refine Ex.nT ?_;refine Ex.seq ?_;refine tl i (O ty) (λh5=>?_) (λh5=>?_)
 .rw [C5 V] at hi
  refine gr ?_;refine tb (!s7 (Y ty i) 1&& !s7 (Y ty i) 2) (λh6=>?_) (λh6=>?_)
  .refine gr ?_
   refine ⟨_,rfl,?_⟩;simp_all [aR,c9,o9,K4,j4,pair,Z,c7.I7]
  .refine gr ?_
   refine kk ⟨i+1,_,_,_,_,_,rfl,rfl,V,?_⟩
   grind [aR,s7,Y]
 .rw [n5 V] at hi
  have hg:aR ty=W:=by rw [hi];rfl
  have h6:=Yv ty hg e he (O e) a 0 [] M M h3.2.1;refine gc h6 ?_;refine ⟨_,rfl,?_⟩
  grind [K4,j4,pair,c7.I7]
def Yw (n:Int):Pf A 288 [.d (.int .u8 n)] (.d (.bool (bH n))):=by
 refine Pf.go 1 ?_
 repeat' (first|refine gy ?_|refine fq (λhw=>?_) λhw=>?_|refine ⟨_,rfl,?_⟩|fail)
 all_goals simp_all [j4,bH]
def Yx (n:Int):Pf A 289 [.d (.int .u8 n)] (.d (.bool (jH n))):=by
 refine Pf.go 1 ?_
 repeat' (first|refine gy ?_|refine fq (λhw=>?_) λhw=>?_|refine ⟨_,rfl,?_⟩|fail)
 all_goals simp_all [j4,jH]
def KP (first:Bool):I4->Nat
 |[]=>0
 |c::r=>if bH c.toNat||(!first&&(jH c.toNat||s7 c.toNat 95)) then KP F r+1 else 0
theorem Ip:∀s:I4,(KP F s==O s)=s.all λc=>jO c.toNat
 |[]=>rfl
 |c::r=>by
  have h1:=Ip r
  grind [jO,bH,jH,s7,KP]
def MX (s:I4):K1 s=(!K7 s []&&U4 (O s) 16&&s7 (KP W s) (O s)):=by
 cases s with
 |nil=>simp [K1,E2]
 |cons c r =>
  have h1:=Ip r;have h3:K7 (c::r) []=F:=by simp [E2]
  have hc:jO c.toNat=(bH c.toNat||jH c.toNat||s7 c.toNat 95):=rfl;simp [K1,KP,Bool.or_false];cases h:bH c.toNat with
  |false=>grind [o6]
  |true =>
   grind [D0,U4,KP,s7]
set_option maxHeartbeats 2000000 in
def Yu (s:I4)(hs:O s<=100000):Pf A 276 [.d (.str s)] (.d (Z (KP W s))):=by
 refine Pf.gr 2 ?_;refine Ex.J1 (λk T H=>∃(i:Nat),T=[.d (.str s),.any,.d (Z i)]/\H=[]/\i+k=O s/\KP W s=i+KP (!D0 0 i) (s.drop i)) ?_ (k:=O s) ⟨0,rfl,rfl,U,by simp [s4]⟩;rintro k _ _ ⟨i,rfl,rfl,hk,hi⟩;refine Ex.seq ?_;refine tc (D0 i (O s)&&(bH (Y s i).toNat||(D0 0 i&&(jH (Y s i).toNat||s7 (Y s i).toNat 95)))) (And.intro Yw Yx) (λh1=>?_) (λh1=>?_)
 .simp only [c9] at h1
  have h2:=A5 h1.1;rw [C5 V,KP,Bool.not_not,h1.2,if_pos rfl] at hi;refine gr ?_;refine kk ⟨i+1,rfl,rfl,V,?_⟩;have h3:D0 0 ((i+1:Nat):Int)=W:=by simp only [s4,decide_eq_true_eq];omega
  rw [hi,h3,Bool.not_true];omega
 .refine gr ?_
  refine ⟨_,rfl,?_⟩;have h3:KP (!D0 0 i) (s.drop i)=0:=by
   rcases y8 i (O s) with h|h
   .have h4:D0 i (O s)=W:=by simp [s4];omega
    rw [h4,Bool.true_and] at h1;rw [C5 h,KP,Bool.not_not,h1];rfl
   .rw [n5 h];rfl
  rw [hi,h3];rfl
def as9 {s:I4}(h:U4 (O s) 16=W):O s<=100000:=by have:=gU h;omega
def No (s:I4):Pf A 247 [.d (.str s)] (.d (.bool (K1 s))):=by
 rw [MX];refine Pf.go 1 ?_
 repeat' (first|refine cl (Yu s (as9 hw)) ?_|refine gy ?_|refine fq (λhw=>?_) λhw=>?_|refine ⟨_,rfl,?_⟩|fail)
 all_goals exact cc
end Go.Proofs.YtibjocmpkoepoaaGreat

