/- Texts D13 D9 D10 D11 D12 (made short by a program) -/
import Derived.Test.YtkmclibmmlgogaaGreatD3
set_option linter.unusedVariables false
set_option linter.unusedSimpArgs false
open Bool renaming and_eq_true → b5, false_eq_true → b7, not_eq_false' → B4, not_eq_true' → j9
open List renaming cons_append → G4, drop_of_length_le → m7, length_append → C1, length_cons → y8, map_cons → G7
open Nat renaming lt_or_ge → p7
namespace Go.Proofs.YtkmclibmmlgogaaGreat
open Go.u7 Go.u7.S
attribute [local irreducible] Rx Ry Rn Ex Pf
theorem YH (n:Int):Pf A 180 [.d (.int .u8 n)] (.d (.bool (aJ n))):=by
 refine Pf.run [.d (.int .u8 n),.any] rfl rfl rfl rfl ?_
 repeat' (first|refine gx ?_|refine fk (h1:=fun hw=> ?_) (h2:=fun hw=> ?_)|refine M8 (h1:=fun hw=> ?_) (h2:=fun hw=> ?_)|refine Ex.J6 ?_|refine Ex.J8 ?_|refine Ex.cond rfl (fun ht=> ?_) (fun ht=> ?_)|refine Ex.test (Rn.text ?_)|refine Ex.test (Rn.draw ?_)|refine ⟨_,rfl,fun ht=> ?_,fun ht=> ?_⟩|refine ⟨_,rfl,?_⟩|fail)
 all_goals simp_all [b9,aJ]
theorem YI (n:Int):Pf A 181 [.d (.int .u8 n)] (.d (.bool (ir n))):=by
 refine Pf.run [.d (.int .u8 n),.any] rfl rfl rfl rfl ?_
 repeat' (first|refine gx ?_|refine fk (h1:=fun hw=> ?_) (h2:=fun hw=> ?_)|refine M8 (h1:=fun hw=> ?_) (h2:=fun hw=> ?_)|refine Ex.J6 ?_|refine Ex.J8 ?_|refine Ex.cond rfl (fun ht=> ?_) (fun ht=> ?_)|refine Ex.test (Rn.text ?_)|refine Ex.test (Rn.draw ?_)|refine ⟨_,rfl,fun ht=> ?_,fun ht=> ?_⟩|refine ⟨_,rfl,?_⟩|fail)
 all_goals simp_all [b9,ir]
def FD (first:Bool):C7->Nat
 |[]=>0
 |c::r=>if aJ c.toNat||(!first&&(ir c.toNat||o8 c.toNat 95)) then FD false r+1 else 0
theorem MR:∀ (b:Bool) (s:C7),FD b s<=s.length
 |_,[]=>by simp [FD]
 |b,c::r=>by
  have:=MR false r;simp only [FD];split<;>simp<;>omega
theorem Im:∀ s:C7,(FD false s==s.length)=s.all fun c=>jN c.toNat
 |[]=>rfl
 |c::r=>by
  have h1:=Im r;have h2:=MR false r;have hc:jN c.toNat=(aJ c.toNat||ir c.toNat||o8 c.toNat 95):=rfl;rw [List.all_cons,<- h1,hc];simp only [FD,Bool.not_false,Bool.true_and];cases aJ c.toNat<;>cases ir c.toNat<;>cases o8 c.toNat 95<;>simp
theorem MS (s:C7):D3 s=(!I9 s []&&X4 s.length 16&&o8 (FD true s) s.length):=by
 cases s with
 |nil=>simp [D3,A3]
 |cons c r =>
  have h1:=Im r;have h3:I9 (c::r) []=false:=by simp [A3]
  have hc:jN c.toNat=(aJ c.toNat||ir c.toNat||o8 c.toNat 95):=rfl;simp only [D3,h3,Bool.not_false,Bool.true_and,FD,Bool.not_true,Bool.false_and,Bool.or_false];rw [List.all_cons,<- h1,hc];cases h:aJ c.toNat with
  |false=>simp [j5];intros;omega
  |true =>
   simp only [if_true,Bool.and_true,Bool.true_or,Bool.true_and];have e1:C2 r.length 16=X4 (c::r).length 16:=by
    simp only [o9,o5,y8];exact decide_eq_decide.2 (by omega)
   have e2:(FD false r==r.length)=o8 (FD false r+1:Nat) (c::r).length:=by
    simp only [j5,y8];rw [Bool.eq_iff_iff];simp only [beq_iff_eq];omega
   rw [e1,e2]
set_option maxHeartbeats 2000000 in
theorem YD (s:C7)(hs:s.length<=100000):Pf A 170 [.d (.str s)] (.d (num (FD true s))):=by
 refine Pf.run [.d (.str s),.any,.any] rfl rfl rfl rfl ?_;refine gr ?_;refine Ex.I7 (fun k T H=>∃ (i:Nat) (v:b6),T=[.d (.str s),v,.d (num i)]/\H=[]/\i+k=s.length/\FD true s=i+FD (!C2 0 i) (s.drop i)) (by rintro _ _ _ ⟨_,_,_,rfl,_⟩;rfl) ?_ (k:=s.length) ⟨0,_,rfl,rfl,by simp,by simp [o9]⟩;rintro k _ _ ⟨i,v,rfl,rfl,hk,hi⟩;refine Ex.nT ?_;refine Ex.seq ?_;refine tB (C2 i s.length&&(aJ (nth s i).toNat||(C2 0 i&&(ir (nth s i).toNat||o8 (nth s i).toNat 95)))) ?_ (fun h1=> ?_) (fun h1=> ?_)
 ·repeat' (first|refine cl (YH _) ?_|refine cl (YI _) ?_|refine gx ?_|refine fk (h1:=fun hw=> ?_) (h2:=fun hw=> ?_)|refine M8 (h1:=fun hw=> ?_) (h2:=fun hw=> ?_)|refine ⟨rfl,rfl,_,rfl,?_⟩|refine ⟨rfl,rfl⟩|fail)
  all_goals exact cc
 ·simp only [b5] at h1
  have h2:=z6 h1.1;rw [A4 (by omega),FD,Bool.not_not,h1.2,if_pos rfl] at hi;refine gr ?_;refine ⟨k - 1,by omega,i+1,_,rfl,rfl,by omega,?_⟩;have h3:C2 0 ((i+1:Nat):Int)=true:=by simp only [o9,decide_eq_true_eq];omega
  rw [hi,h3,Bool.not_true];omega
 ·refine gr ?_
  refine ⟨_,rfl,?_⟩;have h3:FD (!C2 0 i) (s.drop i)=0:=by
   rcases p7 i s.length with h|h
   ·have h4:C2 i s.length=true:=by simp [o9];omega
    rw [h4,Bool.true_and] at h1;rw [A4 h,FD,Bool.not_not,h1];rfl
   ·rw [m7 h];rfl
  rw [hi,h3];rfl
theorem ar4 {s:C7}(h:X4 s.length 16=true):s.length<=100000:=by have:=pO h;omega
theorem zj (s:C7):Pf A 146 [.d (.str s)] (.d (.bool (D3 s))):=by
 rw [MS];refine Pf.run [.d (.str s),.any] rfl rfl rfl rfl ?_
 repeat' (first|refine cl (YD s (ar4 hw)) ?_|refine gx ?_|refine fk (h1:=fun hw=> ?_) (h2:=fun hw=> ?_)|refine M8 (h1:=fun hw=> ?_) (h2:=fun hw=> ?_)|refine Ex.J6 ?_|refine Ex.J8 ?_|refine Ex.cond rfl (fun ht=> ?_) (fun ht=> ?_)|refine Ex.test (Rn.text ?_)|refine Ex.test (Rn.draw ?_)|refine ⟨_,rfl,fun ht=> ?_,fun ht=> ?_⟩|refine ⟨_,rfl,?_⟩|fail)
 all_goals exact cc
set_option maxHeartbeats 4000000 in
theorem SA (t:Z2):Pf A 188 [VU t] (.d (.bool (vS t))):=by
 refine Pf.run [VU t,.any,.any] rfl rfl rfl rfl ?_
 repeat' (first|refine cl (Ng _) ?_|refine cl (YM _ _ _) ?_|refine gx ?_|refine fk (h1:=fun hw=> ?_) (h2:=fun hw=> ?_)|refine M8 (h1:=fun hw=> ?_) (h2:=fun hw=> ?_)|refine Ex.J6 ?_|refine Ex.J8 ?_|refine Ex.cond rfl (fun ht=> ?_) (fun ht=> ?_)|refine Ex.test (Rn.text ?_)|refine Ex.test (Rn.draw ?_)|refine ⟨_,rfl,fun ht=> ?_,fun ht=> ?_⟩|refine ⟨_,rfl,?_⟩|fail)
 all_goals simp only [b9,vS,cM,zeroV, *]
 all_goals simp [*,j5,A3,Bool.and_comm,Bool.and_left_comm,Bool.and_assoc]
 done
def eF (e:List Z2)(p:Nat):Nat×Nat:=match K3 (e.length+1) (e.drop p) with
 |none=>(0,p)
 |some (a,r)=>(a.dep,e.length - r.length)
def pU (e:List Z2)(k m p:Nat):Option (Nat×Nat):=match cq (K3 e.length) k (e.drop p) with
 |none=>none
 |some (l,r)=>some (max m (jF l),e.length - r.length)
theorem AP (a:Z7):0<a.dep:=by
 cases a;simp [Z7.dep]
theorem sX (e:List Z2)(p:Nat)(hp:0<p):(eF e p=(0,p)/\K3 e.length (e.drop p)=none)\/∃ (q:Nat) (a:Z7),eF e p=(a.dep,q)/\q<=e.length/\p<=q/\K3 e.length (e.drop p)=some (a,e.drop q):=by
 have h0:K3 (e.length+1) (e.drop p)=K3 e.length (e.drop p):=Bn (by simp;omega) (by simp);simp only [eF,h0]
 rcases oh e e.length p with ⟨h1,h2⟩|⟨q,h1,h3,h4,a,h2⟩
 ·exact Or.inl ⟨by rw [h2],h2⟩
 ·refine Or.inr ⟨q,a,?_,h3,h4,h2⟩
  rw [h2];simp only [List.length_drop]
  congr 1
  omega
theorem Gz {e:List Z2}{k m p:Nat}(hp:0<p):pU e (k+1) m p=if (eF e p).1=0 then none else pU e k (max m (eF e p).1) (eF e p).2:=by
 rcases sX e p hp with ⟨h1,h2⟩|⟨q,a,h1,_,_,h2⟩
 ·simp only [pU,cq,h2,h1,if_true]
 ·have:=AP a
  rw [h1,if_neg (by simp only;omega)];simp only [pU,cq,h2];cases cq (K3 e.length) k (e.drop q) with
  |none=>rfl
  |some x =>
   obtain ⟨l,r⟩:=x;simp only [jF,Option.some.injEq,Prod.mk.injEq,and_true];omega
theorem GA {e:List Z2}{p:Nat}(hp:p<e.length)(h:vS (nth e p)=true):eF e p=match pU e (kJ (nth e p).op).toNat 0 (p+1) with
  |none=>(0,p)
  |some (d,q)=>(d+1,q):=by
 simp only [eF,pU];rw [A4 hp,K3,h,if_pos rfl];cases cq (K3 e.length) (kJ (nth e p).op).toNat (e.drop (p+1)) with
 |none=>rfl
 |some x =>
  obtain ⟨l,r⟩:=x;simp [Z7.dep]
theorem vJ {e:List Z2}{p:Nat}(h:e.length<=p\/vS (nth e p)=false):eF e p=(0,p):=by
 simp only [eF]
 rcases h with h|h
 ·rw [m7 h]
  rfl
 ·rcases p7 p e.length with hp|hp
  ·rw [A4 hp,K3,h,if_neg (by simp)]
  ·rw [m7 hp]
   rfl
set_option maxHeartbeats 4000000 in
theorem YJ (e:List Z2)(he:e.length<=1000):∀ m p:Nat,e.length<=p+m->p<=2000->Pf A 183 [ee e,.d (num p)] (.tuple [.d (num (eF e p).1),.d (num (eF e p).2)]):=by
 intro m
 induction m with
 |zero =>
  intro p hm hp;refine Pf.run [ee e,.d (num p),.any,.any,.any,.any,.any,.any,.any,.any] rfl rfl rfl rfl ?_;refine gr ?_;refine tB (true) ?_ (fun h1=> ?_) (fun h1=> ?_)
  ·repeat' (first|refine cl (SA _) ?_|refine gx ?_|refine fk (h1:=fun hw=> ?_) (h2:=fun hw=> ?_)|refine M8 (h1:=fun hw=> ?_) (h2:=fun hw=> ?_)|refine ⟨rfl,rfl,_,rfl,?_⟩|refine ⟨rfl,rfl⟩|fail)
   all_goals exact cc
  ·refine gr ?_
   exact ⟨_,rfl,by rw [vJ (Or.inl (by omega))];rfl⟩
  ·cases h1
 |succ m ih =>
  intro p hm hp;refine Pf.run [ee e,.d (num p),.any,.any,.any,.any,.any,.any,.any,.any] rfl rfl rfl rfl ?_;refine gr ?_;refine tB (X4 e.length p|| !vS (nth e p)) ?_ (fun h1=> ?_) (fun h1=> ?_)
  ·repeat' (first|refine cl (SA _) ?_|refine gx ?_|refine fk (h1:=fun hw=> ?_) (h2:=fun hw=> ?_)|refine M8 (h1:=fun hw=> ?_) (h2:=fun hw=> ?_)|refine ⟨rfl,rfl,_,rfl,?_⟩|refine ⟨rfl,rfl⟩|fail)
   all_goals exact cc
  ·refine gr ?_
   refine ⟨_,rfl,?_⟩;rw [vJ]
   ·rfl
   ·simp only [Bool.or_eq_true,j9] at h1
    rcases h1 with h|h
    ·have:=pO h;left;omega
    ·exact Or.inr h
  simp only [Bool.or_eq_false_iff,B4] at h1;have h2:=zd h1.1;have h3:=mM (nth e p).op;have h4:0<=kJ (nth e p).op:=by
   have:=h1.2;simp only [vS,b5,j9] at this;exact z8 this.1
  repeat' (first|refine clT (Ng _) (h2:= ?_)|refine gx ?_|fail)
  refine Ex.I7 (fun k T H=>∃ (i q d:Nat) (v2 v3 v6 v7:b6),T=[ee e,.d (num p),v2,v3,.d (num d),.d (num q),v6,v7,.d (num (kJ (nth e p).op)),.d (num i)]/\H=[]/\(i:Int)+k=kJ (nth e p).op/\p<q/\q<=e.length/\d<=2000/\eF e p=(match pU e k d q with|none=>(0,p)|some (d,q)=>(d+1,q))) (by rintro _ _ _ ⟨_,_,_,_,_,_,_,_,rfl,_⟩;rfl) ?_ (k:=(kJ (nth e p).op).toNat) ⟨0,p+1,0,_,_,_,_,rfl,rfl,by omega,by omega,by omega,by omega,GA (by omega) h1.2⟩;rintro k _ _ ⟨i,q,d,v2,v3,v6,v7,rfl,rfl,hk,hpq,hq,hd,hi⟩;refine Ex.nT ?_;refine Ex.seq ?_;refine tb (C2 i (kJ (nth e p).op)) (fun h5=> ?_) (fun h5=> ?_)
  ·have h6:=z6 h5
   obtain ⟨k,rfl⟩:∃ k',k=k' +1:=⟨k - 1,by omega⟩;rw [Gz (by omega)] at hi;have h7:=ih q (by omega) (by omega)
   rcases sX e q (by omega) with ⟨e1,_⟩|⟨q',a,e1,e2,e3,e4⟩
   ·rw [e1] at hi h7
    rw [if_pos rfl] at hi
    repeat' (first|refine cl (h7) ?_|refine gx ?_|fail)
    refine tb (true) (fun h8=> ?_) (fun h8=> ?_)
    ·refine gr ?_
     exact ⟨_,rfl,by rw [hi];rfl⟩
    ·cases h8
   ·rw [e1] at hi h7
    have e5:=AP a;have e6:a.dep<=1000:=by
     have:=(Q5 _ _ _ _ e4).2.2;omega
    rw [if_neg (by simp only;omega)] at hi
    repeat' (first|refine cl (h7) ?_|refine gx ?_|fail)
    refine tb (false) (fun h8=> ?_) (fun h8=> ?_)
    ·cases h8
    refine gr ?_;have e7:(if (a.dep:Int)>(d:Int) then (a.dep:Int) else (d:Int))=((max d a.dep:Nat):Int):=by split<;>omega
    exact ⟨k,by omega,i+1,q',max d a.dep,_,_,_,_,by rw [<- e7];rfl,rfl,by omega,by omega,e2,by omega,hi⟩
  ·have h6:=z8 h5
   obtain rfl:k=0:=by omega
   refine gr ?_;refine ⟨_,rfl,?_⟩;have h8:pU e 0 d q=some (d,q):=by
    simp only [pU,cq,jF,List.length_drop,Option.some.injEq,Prod.mk.injEq];omega
   rw [hi,h8];rfl
set_option maxHeartbeats 2000000 in
theorem YE (e:List Z2)(he:e.length<=1000):Pf A 174 [ee e] (.d (.bool (ek e))):=by
 have h0:=YJ e he e.length 0 (by omega) (by omega);refine Pf.run [ee e,.any,.any,.any] rfl rfl rfl rfl ?_
 repeat' (first|refine df ?_|refine gx ?_|fail)
 refine tb (C2 64 e.length) (fun h1=> ?_) (fun h1=> ?_)
 ·refine gr ?_
  refine ⟨_,rfl,?_⟩;have:=z6 h1;have:ek e=false:=by simp [ek,o5];omega
  rw [this];rfl
 have h2:=z8 h1;have h3:ek e=(C2 0 (eF e 0).1&&X4 (eF e 0).1 16&&o8 (eF e 0).2 e.length):=by
  rw [gl];have h4:(eo e).isSome=(decide (1<=e.length)&&(match K3 16 e with|some (_,[])=>true|_=>false)):=by
   unfold eo
   by_cases h5:1<=e.length
   ·have:(X4 1 e.length&&X4 e.length 64)=true:=by simp [o5];omega
    rw [this,if_pos rfl];simp only [h5,decide_true,Bool.true_and];split<;>simp_all
   ·have:(X4 1 e.length&&X4 e.length 64)=false:=by simp [o5];omega
    rw [this,if_neg (by simp)];simp [h5]
  rw [h4];simp only [eF,List.drop_zero];cases h5:K3 (e.length+1) e with
  |none =>
   have h6:K3 16 e=none:=by
    cases h7:K3 16 e with
    |none=>rfl
    |some x =>
     obtain ⟨a,r⟩:=x;obtain ⟨g1,g2,g3⟩:=Q5 16 e a r h7;have:=kR a;have hl:a.flat.length<=e.length:=by rw [g1];simp
     have:=U9 a (e.length+1) r g2 (by omega);rw [<- g1,h5] at this;cases this
   simp [h6,o9]
  |some x =>
   obtain ⟨a,r⟩:=x;obtain ⟨g1,g2,g3⟩:=Q5 _ e a r h5;have hp:=AP a;have hf:=fT a;have hl:a.flat.length+r.length=e.length:=by rw [g1];simp
   by_cases h7:a.dep<=16
   ·have:=U9 a 16 r g2 h7
    rw [<- g1] at this;rw [this];cases r with
    |nil =>
     have e1:decide (1<=e.length)=true:=by simp at hl ⊢;omega
     have e2:C2 0 a.dep=true:=by simp only [o9,decide_eq_true_eq];omega
     have e3:X4 a.dep 16=true:=by simp only [o5,decide_eq_true_eq];omega
     have e4:o8 ((e.length - ([]:List Z2).length:Nat):Int) e.length=true:=by simp [j5]
     simp only [e1,e2,e3,e4,Bool.and_self]
    |cons t r =>
     have e4:o8 ((e.length - (t::r).length:Nat):Int) e.length=false:=by simp only [j5,beq_eq_false_iff_ne];simp only [y8] at hl ⊢;omega
     simp only [e4,Bool.and_false]
   ·have h8:K3 16 e=none:=by
     cases h9:K3 16 e with
     |none=>rfl
     |some y =>
      obtain ⟨b,s⟩:=y;obtain ⟨k1,k2,k3⟩:=Q5 16 e b s h9;have hfb:=kR b;have kU:b.flat.length<=e.length:=by rw [k1];simp
      have:=U9 b (e.length+1) s k2 (by omega);rw [<- k1,h5] at this;cases this;exact absurd k3 h7
    rw [h8];simp [o9,o5,j5];omega
 rw [h3]
 repeat' (first|refine cl (h0) ?_|refine gx ?_|refine fk (h1:=fun hw=> ?_) (h2:=fun hw=> ?_)|refine M8 (h1:=fun hw=> ?_) (h2:=fun hw=> ?_)|refine Ex.J6 ?_|refine Ex.J8 ?_|refine Ex.cond rfl (fun ht=> ?_) (fun ht=> ?_)|refine Ex.test (Rn.text ?_)|refine Ex.test (Rn.draw ?_)|refine ⟨_,rfl,fun ht=> ?_,fun ht=> ?_⟩|refine ⟨_,rfl,?_⟩|fail)
 all_goals exact cc
set_option maxHeartbeats 16000000 in
theorem YK (ty:List Int)(t:Z2)(a b c:Int)(hc:t.op≠2\/(0<=t.col/\t.col<ty.length)):Pf A 185 [VU t,.agg [.d (num a),.d (num b),.d (num c)],.d (ints ty)] (.tuple [.d (num (Bs ty t a b c).1),.d (.bool (Bs ty t a b c).2)]):=by
 refine Pf.run [VU t,.agg [.d (num a),.d (num b),.d (num c)],.d (ints ty),.any,.any,.any,.any,.any,.any,.any,.any,.any,.any] rfl rfl rfl rfl ?_
 repeat' (first|refine gx ?_|refine fk (h1:=fun hw=> ?_) (h2:=fun hw=> ?_)|refine M8 (h1:=fun hw=> ?_) (h2:=fun hw=> ?_)|refine Ex.J6 ?_|refine Ex.J8 ?_|refine Ex.cond rfl (fun ht=> ?_) (fun ht=> ?_)|refine Ex.test (Rn.text ?_)|refine Ex.test (Rn.draw ?_)|refine ⟨_,rfl,fun ht=> ?_,fun ht=> ?_⟩|refine ⟨_,rfl,?_⟩|fail)
 all_goals simp only [b9,Bs, *,G7,List.map_nil,b6.F2]
 all_goals simp [*,num]
def three (ts:List Int):List b6:=[.d (num (nth ts 0)),.d (num (nth ts 1)),.d (num (nth ts 2))]
set_option maxHeartbeats 8000000 in
theorem YF (ty:List Int)(dy:aC ty=true)(e:List Z2)(he:e.length<=1000):∀ (n:Nat) (a:Z7) (p:Nat) (r:List Z2),a.flat.length<=n->e.drop p=a.flat++r->a.wf ->
  Pf A 175 [ee e,.d (num p),.d (ints ty)] (.tuple [.d (num (a.typ ty).1),.d (num (if o8 (a.typ ty).2 0 then ((p+a.flat.length:Nat):Int) else 0)),.d (num (a.typ ty).2)]):=by
 intro n
 induction n with
 |zero=>intro a p r h;have:=fT a;omega
 |succ n ih =>
 rintro ⟨t,l⟩ p r hn hp hw;simp only [Z7.flat] at hn hp ⊢;have hpe:(t::K1 l).length+r.length+p=e.length:=by
  have:=congrArg List.length hp;have h2:p<e.length:=by
   rcases p7 p e.length with h|h
   ·exact h
   ·rw [m7 h] at hp;cases hp
  simp at this ⊢;omega
 have Gr:p<e.length:=by simp at hpe;omega
 have h0:nth e p=t/\e.drop (p+1)=K1 l++r:=by
  rw [A4 Gr] at hp;simp only [G4,List.cons.injEq] at hp;exact hp
 obtain ⟨h0,hp1⟩:=h0;obtain ⟨hok,Xj,TV⟩:=hw;have hl3:l.length<=3:=by have:=mM t.op;omega
 have TA:kJ t.op=l.length:=by
  simp only [vS,b5,j9] at hok;have:=z8 hok.1;omega
 refine Pf.run [ee e,.d (num p),.d (ints ty),.any,.any,.any,.any,.any,.any,.any,.any,.any,.any,.any,.any,.any,.any] rfl rfl rfl rfl ?_;refine gr ?_;rw [h0];refine gr ?_;refine clT (Ng t.op) (h2:= ?_);rw [TA];refine gr ?_;refine Ex.I7 (fun k T H=>∃ (i q:Nat) (l1 l2:List Z7) (ts:List Int) (v1 v3 v4 v5 v9 v10 v11 v12 v13 v14:b6),T=[ee e,v1,.d (ints ty),v3,v4,v5,.ptr 0 0,.d (num q),.ptr 1 0,v9,v10,v11,v12,v13,v14,.d (num l.length),.d (num i)]/\H=[.cells (t.enc.map .d),.cells (three ts)]/\i=l1.length/\k=l2.length/\l=l1++l2/\ts.length=i/\(fA ty l).1=ts++(fA ty l2).1/\(fA ty l).2=(fA ty l2).2/\e.drop q=K1 l2++r/\q+(K1 l2).length=p+(t::K1 l).length) (by rintro _ _ _ ⟨_,_,_,_,_,_,_,_,_,_,_,_,_,_,_,_,rfl,_⟩;rfl) ?_ (k:=l.length) ⟨0,p+1,[],l,[],_,_,_,_,_,_,_,_,_,_,rfl,by simp only [three,uo];rfl,rfl,rfl,rfl,rfl,rfl,rfl,hp1,by simp;omega⟩;rintro k _ _ ⟨i,q,l1,l2,ts,v1,v3,v4,v5,v9,v10,v11,v12,v13,v14,rfl,rfl,yh,hk,hl,hts,e1,e2,hq,hqe⟩;have hlen:l.length=l1.length+l2.length:=by rw [hl];simp
 refine Ex.nT ?_;refine Ex.seq ?_;refine tb (C2 i l.length) (fun h3=> ?_) (fun h3=> ?_)
 ·have h4:=z6 h3
  cases l2 with
  |nil=>simp at hlen;omega
  |cons a l2 =>
  have ha:a ∈ l:=by rw [hl];simp
  have dc:=ih a q (K1 l2++r) (by have:=vp ha;simp at hn;omega) (by rw [hq];simp [K1]) (Hs TV ha);simp only [fA] at e1 e2;simp only [K1,C1] at hqe
  repeat' (first|refine cl (dc) ?_|refine gx ?_|fail)
  refine tb (!o8 (a.typ ty).2 0) (fun h5=> ?_) (fun h5=> ?_)
  ·simp only [j9] at h5
   simp only [h5,b7,if_false] at e1 e2;refine gr ?_;refine ⟨_,rfl,?_⟩;simp [b9,Z7.typ,e2,h5,b6.F2,num]
  ·simp only [B4] at h5
   simp only [h5,if_true] at e1 e2 ⊢;refine gr ?_;have h6:e.drop (q+a.flat.length)=K1 l2++r:=by
    rw [<- List.drop_drop,hq,K1,List.append_assoc,List.drop_left]
   have h7:ts=[]\/(∃ x,ts=[x])\/∃ x y,ts=[x,y]:=by
    match ts,hts with
    |[],_=>exact Or.inl rfl
    |[x],_=>exact Or.inr (Or.inl ⟨x,rfl⟩)
    |[x,y],_=>exact Or.inr (Or.inr ⟨x,y,rfl⟩)
    |x::y::z::w,h=>simp at h;omega
   rcases h7 with rfl|⟨x,rfl⟩|⟨x,y,rfl⟩
   ·simp only [List.length_nil] at hts
    refine ipp (e:=(i:Int)) (o2:=0) 0 (by omega) rfl (by decide) ?_;unfold three;refine gr ?_;exact ⟨l2.length,by simp at hk;omega,i+1,q+a.flat.length,l1++[a],l2,[(a.typ ty).1],_,_,_,_,_,_,_,_,_,_,rfl,by simp only [three,uo,S7,lI],by simp [yh],rfl,by simp [hl],by simp;omega,by simpa using e1,e2,h6,by omega⟩
   ·simp only [y8,List.length_nil] at hts
    refine ipp (e:=(i:Int)) (o2:=1) 1 (by omega) rfl (by decide) ?_;unfold three;refine gr ?_;exact ⟨l2.length,by simp at hk;omega,i+1,q+a.flat.length,l1++[a],l2,[x,(a.typ ty).1],_,_,_,_,_,_,_,_,_,_,rfl,by simp only [three,uo,S7,lI],by simp [yh],rfl,by simp [hl],by simp;omega,by simpa using e1,e2,h6,by omega⟩
   ·simp only [y8,List.length_nil] at hts
    refine ipp (e:=(i:Int)) (o2:=2) 2 (by omega) rfl (by decide) ?_;unfold three;refine gr ?_;exact ⟨l2.length,by simp at hk;omega,i+1,q+a.flat.length,l1++[a],l2,[x,y,(a.typ ty).1],_,_,_,_,_,_,_,_,_,_,rfl,by simp only [three,uo,S7,lI],by simp [yh],rfl,by simp [hl],by simp;omega,by simpa using e1,e2,h6,by omega⟩
 ·have h4:=z8 h3
  cases l2 with
  |cons a l2=>simp at hlen;omega
  |nil =>
  simp only [fA,List.append_nil] at e1 e2;have VJ:ts.length=l.length:=by simp at hlen;omega
  have htg:∀ x,x ∈ ts->good x:=by rw [<- e1];exact sw dy l TV
  refine gr ?_;refine tb (o8 t.op 2&&X4 ty.length t.col) (fun h5=> ?_) (fun h5=> ?_)
  ·simp only [b5] at h5
   have h6:o8 t.op 1=false:=by have:=X2 h5.1;simp [j5];omega
   refine gr ?_;refine ⟨_,rfl,?_⟩;simp [b9,Z7.typ,e2,h5,h6,yu,b6.F2,num,j5]
  have Gl:t.op≠2\/(0<=t.col/\t.col<ty.length):=by
   cases h6:o8 t.op 2 with
   |false=>exact Or.inl (sM h6)
   |true =>
    right;have h7:o8 t.op 1=false:=by have:=X2 h6;simp [j5];omega
    simp only [h6,Bool.true_and] at h5;simp only [vS,cM,h6,h7,if_true,b7,if_false,b5] at hok;exact ⟨pO hok.2.2,zd h5⟩
  have ap0:=Rw (ty:=ty) (t:=t) (ts:=ts) htg (fun h=>by simpa [h] using h5)
   (fun h=>by have h8:=X2 h;have h9:=TA;unfold kJ at h9;rw [h8] at h9;simp [j5,o5] at h9;omega)
   (fun h=>by have h8:=X2 h;have h9:=TA;unfold kJ at h9;rw [h8] at h9;simp [j5,o5] at h9;omega)
  have hz:o8 (fA ty l).2 0=true:=by rw [e2];simp [j5]
  have vD:(Z7.node t l).typ ty=if (Bs ty t (nth ts 0) (nth ts 1) (nth ts 2)).2 then ((Bs ty t (nth ts 0) (nth ts 1) (nth ts 2)).1,0) else (0,5):=by
   simp only [Z7.typ,hz,if_true,e1,ap0]
  unfold three
  repeat' (first|refine cl (YK ty t _ _ _ Gl) ?_|refine gx ?_|fail)
  rw [vD];cases h6:(Bs ty t (nth ts 0) (nth ts 1) (nth ts 2)).2 with
  |false =>
   refine tb (true) (fun h7=> ?_) (fun h7=> ?_)
   ·refine gr ?_
    refine ⟨_,rfl,?_⟩;simp [b9,b6.F2,num,j5]
   ·cases h7
  |true =>
   refine tb (false) (fun h7=> ?_) (fun h7=> ?_)
   ·cases h7
   refine gr ?_;refine ⟨_,rfl,?_⟩;simp only [K1,List.length_nil,Nat.add_zero] at hqe;simp [b9,b6.F2,num,j5,hqe]
theorem Eu {e:List Z2}{a:Z7}(h:eo e=some a):e=a.flat/\a.wf/\a.dep<=16:=by
 unfold eo at h;split at h
 ·split at h
  ·rename_i b h4
   obtain ⟨e1,e2,e3⟩:=Q5 16 e b [] h4;cases h;exact ⟨by simpa using e1,e2,e3⟩
  ·cases h
 ·cases h
set_option maxHeartbeats 2000000 in
theorem DA (e:List Z2)(ty:List Int)(he:e.length<=1000)(ht:ty.length<=100000):Pf A 153 [ee e,.d (ints ty)] (pair (E4 e ty)):=by
 refine Pf.run [ee e,.d (ints ty),.any,.any,.any,.any,.any,.any,.any,.any] rfl rfl rfl rfl ?_;refine gr ?_;refine tB (!ek e) ?_ (fun h1=> ?_) (fun h1=> ?_)
 ·repeat' (first|refine cl (YE e he) ?_|refine gx ?_|refine fk (h1:=fun hw=> ?_) (h2:=fun hw=> ?_)|refine M8 (h1:=fun hw=> ?_) (h2:=fun hw=> ?_)|refine ⟨rfl,rfl,_,rfl,?_⟩|refine ⟨rfl,rfl⟩|fail)
  all_goals exact cc
 ·refine gr ?_
  refine ⟨_,rfl,?_⟩;rw [gl] at h1;cases h2:eo e with
  |none=>simp [E4,h2,b9,pair,num,b6.F2]
  |some a=>simp [h2] at h1
 rw [gl] at h1;cases h2:eo e with
 |none=>simp [h2] at h1
 |some a =>
 have h3:=Eu h2;refine gr ?_;refine Ex.I7 (fun k T H=>∃ (i:Nat) (v w x y z:b6),T=[ee e,.d (ints ty),v,w,x,y,z,.d (ints ty),.d (num ty.length),.d (num i)]/\H=[]/\i+k=ty.length/\aC ty=aC (ty.drop i)) (by rintro _ _ _ ⟨_,_,_,_,_,_,_,rfl,_⟩;rfl) ?_ (k:=ty.length) ⟨0,_,_,_,_,_,rfl,rfl,by simp,by simp⟩;rintro k _ _ ⟨i,v,w,x,y,z,rfl,rfl,hk,hi⟩;refine Ex.nT ?_;refine Ex.seq ?_;refine tb (C2 i ty.length) (fun h4=> ?_) (fun h4=> ?_)
 ·have h5:=z6 h4
  rw [A4 (by omega)] at hi;refine gr ?_;refine tb (!o8 (nth ty i) 1&& !o8 (nth ty i) 2) (fun h6=> ?_) (fun h6=> ?_)
  ·refine gr ?_
   refine ⟨_,rfl,?_⟩;have h7:aC ty=false:=by
    rw [hi];simp only [b5,j9] at h6;simp [aC,h6]
   simp [E4,h2,h7,b9,pair,num,b6.F2]
  ·refine gr ?_
   refine ⟨k - 1,by omega,i+1,_,_,_,_,_,rfl,rfl,by omega,?_⟩;rw [hi];simp only [aC,List.all_cons];cases h7:o8 (nth ty i) 1<;>cases h8:o8 (nth ty i) 2<;>simp_all
 ·have h5:=z8 h4
  rw [m7 (by omega)] at hi;have hg:aC ty=true:=by rw [hi];rfl
  have h6:=YF ty hg e he e.length a 0 [] (by rw [h3.1];omega) (by rw [<- h3.1];simp) h3.2.1
  repeat' (first|refine cl (h6) ?_|refine gx ?_|fail)
  refine ⟨_,rfl,?_⟩;simp [E4,h2,hg,b9,pair,b6.F2]
end Go.Proofs.YtkmclibmmlgogaaGreat

