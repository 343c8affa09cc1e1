/- Texts D13 D9 D10 D11 D12 (made short by a program) -/
import Derived.Test.YtkmclibmmlgogaaGreatD3
set_option linter.unusedVariables false
set_option linter.unusedSimpArgs false
open Bool renaming and_eq_true → b5, false_eq_true → b7, not_eq_false' → A7, not_eq_true' → j5, or_eq_false_iff → L6
open List renaming cons_append → D9, drop_of_length_le → m6, length_append → C1, length_cons → A2, map_cons → H8
open Nat renaming lt_or_ge → p9
namespace Go.Proofs.YtkmclibmmlgogaaGreat
open Go.z7 Go.z7.S
attribute [local irreducible] Rx Ry Rn Ex Pf
theorem ZS (n:Int):Pf A 180 [.d (.int .u8 n)] (.d (.bool (aZ n))):=by
 refine Pf.run [.d (.int .u8 n),.any] rfl rfl rfl rfl ?_
 repeat' (first|refine gx ?_|refine fk (h1:=fun hw=> ?_) (h2:=fun hw=> ?_)|refine L3 (h1:=fun hw=> ?_) (h2:=fun hw=> ?_)|refine Ex.I4 ?_|refine Ex.I6 ?_|refine Ex.cond rfl (fun ht=> ?_) (fun ht=> ?_)|refine Ex.test (Rn.text ?_)|refine Ex.test (Rn.draw ?_)|refine ⟨_,rfl,fun ht=> ?_,fun ht=> ?_⟩|refine ⟨_,rfl,?_⟩|fail)
 all_goals simp_all [b9,aZ]
theorem ZT (n:Int):Pf A 181 [.d (.int .u8 n)] (.d (.bool (iN n))):=by
 refine Pf.run [.d (.int .u8 n),.any] rfl rfl rfl rfl ?_
 repeat' (first|refine gx ?_|refine fk (h1:=fun hw=> ?_) (h2:=fun hw=> ?_)|refine L3 (h1:=fun hw=> ?_) (h2:=fun hw=> ?_)|refine Ex.I4 ?_|refine Ex.I6 ?_|refine Ex.cond rfl (fun ht=> ?_) (fun ht=> ?_)|refine Ex.test (Rn.text ?_)|refine Ex.test (Rn.draw ?_)|refine ⟨_,rfl,fun ht=> ?_,fun ht=> ?_⟩|refine ⟨_,rfl,?_⟩|fail)
 all_goals simp_all [b9,iN]
def Gf (first:Bool):D6->Nat
 |[]=>0
 |c::r=>if aZ c.toNat||(!first&&(iN c.toNat||o9 c.toNat 95)) then Gf false r+1 else 0
theorem Nx:∀ (b:Bool) (s:D6),Gf b s<=s.length
 |_,[]=>by simp [Gf]
 |b,c::r=>by
  have:=Nx false r;simp only [Gf];split<;>simp<;>omega
theorem IQ:∀ s:D6,(Gf false s==s.length)=s.all fun c=>kA c.toNat
 |[]=>rfl
 |c::r=>by
  have h1:=IQ r;have h2:=Nx false r;have hc:kA c.toNat=(aZ c.toNat||iN c.toNat||o9 c.toNat 95):=rfl;rw [List.all_cons,<- h1,hc];simp only [Gf,Bool.not_false,Bool.true_and];cases aZ c.toNat<;>cases iN c.toNat<;>cases o9 c.toNat 95<;>simp
theorem Ny (s:D6):E5 s=(!J4 s []&&W6 s.length 16&&o9 (Gf true s) s.length):=by
 cases s with
 |nil=>simp [E5,B7]
 |cons c r =>
  have h1:=IQ r;have h3:J4 (c::r) []=false:=by simp [B7]
  have hc:kA c.toNat=(aZ c.toNat||iN c.toNat||o9 c.toNat 95):=rfl;simp only [E5,h3,Bool.not_false,Bool.true_and,Gf,Bool.not_true,Bool.false_and,Bool.or_false];rw [List.all_cons,<- h1,hc];cases h:aZ c.toNat with
  |false=>simp [j9];intros;omega
  |true =>
   simp only [if_true,Bool.and_true,Bool.true_or,Bool.true_and];have e1:C7 r.length 16=W6 (c::r).length 16:=by
    simp only [p8,p5,A2];exact decide_eq_decide.2 (by omega)
   have e2:(Gf false r==r.length)=o9 (Gf false r+1:Nat) (c::r).length:=by
    simp only [j9,A2];rw [Bool.eq_iff_iff];simp only [beq_iff_eq];omega
   rw [e1,e2]
set_option maxHeartbeats 2000000 in
theorem ZO (s:D6)(hs:s.length<=100000):Pf A 170 [.d (.str s)] (.d (num (Gf true s))):=by
 refine Pf.run [.d (.str s),.any,.any] rfl rfl rfl rfl ?_;refine gr ?_;refine Ex.J1 (fun k T H=>∃ (i:Nat) (v:b6),T=[.d (.str s),v,.d (num i)]/\H=[]/\i+k=s.length/\Gf true s=i+Gf (!C7 0 i) (s.drop i)) (by rintro _ _ _ ⟨_,_,_,rfl,_⟩;rfl) ?_ (k:=s.length) ⟨0,_,rfl,rfl,by simp,by simp [p8]⟩;rintro k _ _ ⟨i,v,rfl,rfl,hk,hi⟩;refine Ex.nT ?_;refine Ex.seq ?_;refine tB (C7 i s.length&&(aZ (nth s i).toNat||(C7 0 i&&(iN (nth s i).toNat||o9 (nth s i).toNat 95)))) ?_ (fun h1=> ?_) (fun h1=> ?_)
 ·repeat' (first|refine cl (ZS _) ?_|refine cl (ZT _) ?_|refine gx ?_|refine fk (h1:=fun hw=> ?_) (h2:=fun hw=> ?_)|refine L3 (h1:=fun hw=> ?_) (h2:=fun hw=> ?_)|refine ⟨rfl,rfl,_,rfl,?_⟩|refine ⟨rfl,rfl⟩|fail)
  all_goals exact cc
 ·simp only [b5] at h1
  have h2:=A4 h1.1;rw [A8 (by omega),Gf,Bool.not_not,h1.2,if_pos rfl] at hi;refine gr ?_;refine ⟨k - 1,by omega,i+1,_,rfl,rfl,by omega,?_⟩;have h3:C7 0 ((i+1:Nat):Int)=true:=by simp only [p8,decide_eq_true_eq];omega
  rw [hi,h3,Bool.not_true];omega
 ·refine gr ?_
  refine ⟨_,rfl,?_⟩;have h3:Gf (!C7 0 i) (s.drop i)=0:=by
   rcases p9 i s.length with h|h
   ·have h4:C7 i s.length=true:=by simp [p8];omega
    rw [h4,Bool.true_and] at h1;rw [A8 h,Gf,Bool.not_not,h1];rfl
   ·rw [m6 h];rfl
  rw [hi,h3];rfl
theorem az3 {s:D6}(h:W6 s.length 16=true):s.length<=100000:=by have:=qD h;omega
theorem zZ (s:D6):Pf A 146 [.d (.str s)] (.d (.bool (E5 s))):=by
 rw [Ny];refine Pf.run [.d (.str s),.any] rfl rfl rfl rfl ?_
 repeat' (first|refine cl (ZO s (az3 hw)) ?_|refine gx ?_|refine fk (h1:=fun hw=> ?_) (h2:=fun hw=> ?_)|refine L3 (h1:=fun hw=> ?_) (h2:=fun hw=> ?_)|refine Ex.I4 ?_|refine Ex.I6 ?_|refine Ex.cond rfl (fun ht=> ?_) (fun ht=> ?_)|refine Ex.test (Rn.text ?_)|refine Ex.test (Rn.draw ?_)|refine ⟨_,rfl,fun ht=> ?_,fun ht=> ?_⟩|refine ⟨_,rfl,?_⟩|fail)
 all_goals exact cc
set_option maxHeartbeats 4000000 in
theorem TJ (t:aG):Pf A 188 [Xm t] (.d (.bool (wR t))):=by
 refine Pf.run [Xm t,.any,.any] rfl rfl rfl rfl ?_
 repeat' (first|refine cl (NP _) ?_|refine cl (ZX _ _ _) ?_|refine gx ?_|refine fk (h1:=fun hw=> ?_) (h2:=fun hw=> ?_)|refine L3 (h1:=fun hw=> ?_) (h2:=fun hw=> ?_)|refine Ex.I4 ?_|refine Ex.I6 ?_|refine Ex.cond rfl (fun ht=> ?_) (fun ht=> ?_)|refine Ex.test (Rn.text ?_)|refine Ex.test (Rn.draw ?_)|refine ⟨_,rfl,fun ht=> ?_,fun ht=> ?_⟩|refine ⟨_,rfl,?_⟩|fail)
 all_goals simp only [b9,wR,de,zeroV, *]
 all_goals simp [*,j9,B7,Bool.and_comm,Bool.and_left_comm,Bool.and_assoc]
 done
def eW (e:List aG)(p:Nat):Nat×Nat:=match L4 (e.length+1) (e.drop p) with
 |none=>(0,p)
 |some (a,r)=>(a.dep,e.length - r.length)
def qF (e:List aG)(k m p:Nat):Option (Nat×Nat):=match cI (L4 e.length) k (e.drop p) with
 |none=>none
 |some (l,r)=>some (max m (jZ l),e.length - r.length)
theorem Bx (a:aD):0<a.dep:=by
 cases a;simp [aD.dep]
theorem tQ (e:List aG)(p:Nat)(hp:0<p):(eW e p=(0,p)/\L4 e.length (e.drop p)=none)\/∃ (q:Nat) (a:aD),eW e p=(a.dep,q)/\q<=e.length/\p<=q/\L4 e.length (e.drop p)=some (a,e.drop q):=by
 have h0:L4 (e.length+1) (e.drop p)=L4 e.length (e.drop p):=BV (by simp;omega) (by simp);simp only [eW,h0]
 rcases oR e e.length p with ⟨h1,h2⟩|⟨q,h1,h3,h4,a,h2⟩
 ·exact Or.inl ⟨by rw [h2],h2⟩
 ·refine Or.inr ⟨q,a,?_,h3,h4,h2⟩
  rw [h2];simp only [List.length_drop]
  congr 1
  omega
theorem GY {e:List aG}{k m p:Nat}(hp:0<p):qF e (k+1) m p=if (eW e p).1=0 then none else qF e k (max m (eW e p).1) (eW e p).2:=by
 rcases tQ e p hp with ⟨h1,h2⟩|⟨q,a,h1,_,_,h2⟩
 ·simp only [qF,cI,h2,h1,if_true]
 ·have:=Bx a
  rw [h1,if_neg (by simp only;omega)];simp only [qF,cI,h2];cases cI (L4 e.length) k (e.drop q) with
  |none=>rfl
  |some x =>
   obtain ⟨l,r⟩:=x;simp only [jZ,Option.some.injEq,Prod.mk.injEq,and_true];omega
theorem GZ {e:List aG}{p:Nat}(hp:p<e.length)(h:wR (nth e p)=true):eW e p=match qF e (lE (nth e p).op).toNat 0 (p+1) with
  |none=>(0,p)
  |some (d,q)=>(d+1,q):=by
 simp only [eW,qF];rw [A8 hp,L4,h,if_pos rfl];cases cI (L4 e.length) (lE (nth e p).op).toNat (e.drop (p+1)) with
 |none=>rfl
 |some x =>
  obtain ⟨l,r⟩:=x;simp [aD.dep]
theorem wF {e:List aG}{p:Nat}(h:e.length<=p\/wR (nth e p)=false):eW e p=(0,p):=by
 simp only [eW]
 rcases h with h|h
 ·rw [m6 h]
  rfl
 ·rcases p9 p e.length with hp|hp
  ·rw [A8 hp,L4,h,if_neg (by simp)]
  ·rw [m6 hp]
   rfl
set_option maxHeartbeats 4000000 in
theorem ZU (e:List aG)(he:e.length<=1000):∀ m p:Nat,e.length<=p+m->p<=2000->Pf A 183 [eA e,.d (num p)] (.tuple [.d (num (eW e p).1),.d (num (eW e p).2)]):=by
 intro m
 induction m with
 |zero =>
  intro p hm hp;refine Pf.run [eA e,.d (num p),.any,.any,.any,.any,.any,.any,.any,.any] rfl rfl rfl rfl ?_;refine gr ?_;refine tB (true) ?_ (fun h1=> ?_) (fun h1=> ?_)
  ·repeat' (first|refine cl (TJ _) ?_|refine gx ?_|refine fk (h1:=fun hw=> ?_) (h2:=fun hw=> ?_)|refine L3 (h1:=fun hw=> ?_) (h2:=fun hw=> ?_)|refine ⟨rfl,rfl,_,rfl,?_⟩|refine ⟨rfl,rfl⟩|fail)
   all_goals exact cc
  ·refine gr ?_
   exact ⟨_,rfl,by rw [wF (Or.inl (by omega))];rfl⟩
  ·cases h1
 |succ m ih =>
  intro p hm hp;refine Pf.run [eA e,.d (num p),.any,.any,.any,.any,.any,.any,.any,.any] rfl rfl rfl rfl ?_;refine gr ?_;refine tB (W6 e.length p|| !wR (nth e p)) ?_ (fun h1=> ?_) (fun h1=> ?_)
  ·repeat' (first|refine cl (TJ _) ?_|refine gx ?_|refine fk (h1:=fun hw=> ?_) (h2:=fun hw=> ?_)|refine L3 (h1:=fun hw=> ?_) (h2:=fun hw=> ?_)|refine ⟨rfl,rfl,_,rfl,?_⟩|refine ⟨rfl,rfl⟩|fail)
   all_goals exact cc
  ·refine gr ?_
   refine ⟨_,rfl,?_⟩;rw [wF]
   ·rfl
   ·simp only [Bool.or_eq_true,j5] at h1
    rcases h1 with h|h
    ·have:=qD h;left;omega
    ·exact Or.inr h
  simp only [L6,A7] at h1;have h2:=zS h1.1;have h3:=nr (nth e p).op;have h4:0<=lE (nth e p).op:=by
   have:=h1.2;simp only [wR,b5,j5] at this;exact z8 this.1
  repeat' (first|refine clT (NP _) (h2:= ?_)|refine gx ?_|fail)
  refine Ex.J1 (fun k T H=>∃ (i q d:Nat) (v2 v3 v6 v7:b6),T=[eA e,.d (num p),v2,v3,.d (num d),.d (num q),v6,v7,.d (num (lE (nth e p).op)),.d (num i)]/\H=[]/\(i:Int)+k=lE (nth e p).op/\p<q/\q<=e.length/\d<=2000/\eW e p=(match qF e k d q with|none=>(0,p)|some (d,q)=>(d+1,q))) (by rintro _ _ _ ⟨_,_,_,_,_,_,_,_,rfl,_⟩;rfl) ?_ (k:=(lE (nth e p).op).toNat) ⟨0,p+1,0,_,_,_,_,rfl,rfl,by omega,by omega,by omega,by omega,GZ (by omega) h1.2⟩;rintro k _ _ ⟨i,q,d,v2,v3,v6,v7,rfl,rfl,hk,hpq,hq,hd,hi⟩;refine Ex.nT ?_;refine Ex.seq ?_;refine tb (C7 i (lE (nth e p).op)) (fun h5=> ?_) (fun h5=> ?_)
  ·have h6:=A4 h5
   obtain ⟨k,rfl⟩:∃ k',k=k' +1:=⟨k - 1,by omega⟩;rw [GY (by omega)] at hi;have h7:=ih q (by omega) (by omega)
   rcases tQ e q (by omega) with ⟨e1,_⟩|⟨q',a,e1,e2,e3,e4⟩
   ·rw [e1] at hi h7
    rw [if_pos rfl] at hi
    repeat' (first|refine cl (h7) ?_|refine gx ?_|fail)
    refine tb (true) (fun h8=> ?_) (fun h8=> ?_)
    ·refine gr ?_
     exact ⟨_,rfl,by rw [hi];rfl⟩
    ·cases h8
   ·rw [e1] at hi h7
    have e5:=Bx a;have e6:a.dep<=1000:=by
     have:=(R9 _ _ _ _ e4).2.2;omega
    rw [if_neg (by simp only;omega)] at hi
    repeat' (first|refine cl (h7) ?_|refine gx ?_|fail)
    refine tb (false) (fun h8=> ?_) (fun h8=> ?_)
    ·cases h8
    refine gr ?_;have e7:(if (a.dep:Int)>(d:Int) then (a.dep:Int) else (d:Int))=((max d a.dep:Nat):Int):=by split<;>omega
    exact ⟨k,by omega,i+1,q',max d a.dep,_,_,_,_,by rw [<- e7];rfl,rfl,by omega,by omega,e2,by omega,hi⟩
  ·have h6:=z8 h5
   obtain rfl:k=0:=by omega
   refine gr ?_;refine ⟨_,rfl,?_⟩;have h8:qF e 0 d q=some (d,q):=by
    simp only [qF,cI,jZ,List.length_drop,Option.some.injEq,Prod.mk.injEq];omega
   rw [hi,h8];rfl
set_option maxHeartbeats 2000000 in
theorem ZP (e:List aG)(he:e.length<=1000):Pf A 174 [eA e] (.d (.bool (eC e))):=by
 have h0:=ZU e he e.length 0 (by omega) (by omega);refine Pf.run [eA e,.any,.any,.any] rfl rfl rfl rfl ?_
 repeat' (first|refine df ?_|refine gx ?_|fail)
 refine tb (C7 64 e.length) (fun h1=> ?_) (fun h1=> ?_)
 ·refine gr ?_
  refine ⟨_,rfl,?_⟩;have:=A4 h1;have:eC e=false:=by simp [eC,p5];omega
  rw [this];rfl
 have h2:=z8 h1;have h3:eC e=(C7 0 (eW e 0).1&&W6 (eW e 0).1 16&&o9 (eW e 0).2 e.length):=by
  rw [gF];have h4:(eD e).isSome=(decide (1<=e.length)&&(match L4 16 e with|some (_,[])=>true|_=>false)):=by
   unfold eD
   by_cases h5:1<=e.length
   ·have:(W6 1 e.length&&W6 e.length 64)=true:=by simp [p5];omega
    rw [this,if_pos rfl];simp only [h5,decide_true,Bool.true_and];split<;>simp_all
   ·have:(W6 1 e.length&&W6 e.length 64)=false:=by simp [p5];omega
    rw [this,if_neg (by simp)];simp [h5]
  rw [h4];simp only [eW,List.drop_zero];cases h5:L4 (e.length+1) e with
  |none =>
   have h6:L4 16 e=none:=by
    cases h7:L4 16 e with
    |none=>rfl
    |some x =>
     obtain ⟨a,r⟩:=x;obtain ⟨g1,g2,g3⟩:=R9 16 e a r h7;have:=lP a;have hl:a.flat.length<=e.length:=by rw [g1];simp
     have:=V9 a (e.length+1) r g2 (by omega);rw [<- g1,h5] at this;cases this
   simp [h6,p8]
  |some x =>
   obtain ⟨a,r⟩:=x;obtain ⟨g1,g2,g3⟩:=R9 _ e a r h5;have hp:=Bx a;have hf:=gn a;have hl:a.flat.length+r.length=e.length:=by rw [g1];simp
   by_cases h7:a.dep<=16
   ·have:=V9 a 16 r g2 h7
    rw [<- g1] at this;rw [this];cases r with
    |nil =>
     have e1:decide (1<=e.length)=true:=by simp at hl ⊢;omega
     have e2:C7 0 a.dep=true:=by simp only [p8,decide_eq_true_eq];omega
     have e3:W6 a.dep 16=true:=by simp only [p5,decide_eq_true_eq];omega
     have e4:o9 ((e.length - ([]:List aG).length:Nat):Int) e.length=true:=by simp [j9]
     simp only [e1,e2,e3,e4,Bool.and_self]
    |cons t r =>
     have e4:o9 ((e.length - (t::r).length:Nat):Int) e.length=false:=by simp only [j9,beq_eq_false_iff_ne];simp only [A2] at hl ⊢;omega
     simp only [e4,Bool.and_false]
   ·have h8:L4 16 e=none:=by
     cases h9:L4 16 e with
     |none=>rfl
     |some y =>
      obtain ⟨b,s⟩:=y;obtain ⟨k1,k2,k3⟩:=R9 16 e b s h9;have hfb:=lP b;have lV:b.flat.length<=e.length:=by rw [k1];simp
      have:=V9 b (e.length+1) s k2 (by omega);rw [<- k1,h5] at this;cases this;exact absurd k3 h7
    rw [h8];simp [p8,p5,j9];omega
 rw [h3]
 repeat' (first|refine cl (h0) ?_|refine gx ?_|refine fk (h1:=fun hw=> ?_) (h2:=fun hw=> ?_)|refine L3 (h1:=fun hw=> ?_) (h2:=fun hw=> ?_)|refine Ex.I4 ?_|refine Ex.I6 ?_|refine Ex.cond rfl (fun ht=> ?_) (fun ht=> ?_)|refine Ex.test (Rn.text ?_)|refine Ex.test (Rn.draw ?_)|refine ⟨_,rfl,fun ht=> ?_,fun ht=> ?_⟩|refine ⟨_,rfl,?_⟩|fail)
 all_goals exact cc
set_option maxHeartbeats 16000000 in
theorem ZV (ty:List Int)(t:aG)(a b c:Int)(hc:t.op≠2\/(0<=t.col/\t.col<ty.length)):Pf A 185 [Xm t,.agg [.d (num a),.d (num b),.d (num c)],.d (ints ty)] (.tuple [.d (num (Cc ty t a b c).1),.d (.bool (Cc ty t a b c).2)]):=by
 refine Pf.run [Xm t,.agg [.d (num a),.d (num b),.d (num c)],.d (ints ty),.any,.any,.any,.any,.any,.any,.any,.any,.any,.any] rfl rfl rfl rfl ?_
 repeat' (first|refine gx ?_|refine fk (h1:=fun hw=> ?_) (h2:=fun hw=> ?_)|refine L3 (h1:=fun hw=> ?_) (h2:=fun hw=> ?_)|refine Ex.I4 ?_|refine Ex.I6 ?_|refine Ex.cond rfl (fun ht=> ?_) (fun ht=> ?_)|refine Ex.test (Rn.text ?_)|refine Ex.test (Rn.draw ?_)|refine ⟨_,rfl,fun ht=> ?_,fun ht=> ?_⟩|refine ⟨_,rfl,?_⟩|fail)
 all_goals simp only [b9,Cc, *,H8,List.map_nil,b6.G9]
 all_goals simp [*,num]
def three (ts:List Int):List b6:=[.d (num (nth ts 0)),.d (num (nth ts 1)),.d (num (nth ts 2))]
set_option maxHeartbeats 8000000 in
theorem ZQ (ty:List Int)(dV:aQ ty=true)(e:List aG)(he:e.length<=1000):∀ (n:Nat) (a:aD) (p:Nat) (r:List aG),a.flat.length<=n->e.drop p=a.flat++r->a.wf ->
  Pf A 175 [eA e,.d (num p),.d (ints ty)] (.tuple [.d (num (a.typ ty).1),.d (num (if o9 (a.typ ty).2 0 then ((p+a.flat.length:Nat):Int) else 0)),.d (num (a.typ ty).2)]):=by
 intro n
 induction n with
 |zero=>intro a p r h;have:=gn a;omega
 |succ n ih =>
 rintro ⟨t,l⟩ p r hn hp hw;simp only [aD.flat] at hn hp ⊢;have hpe:(t::L0 l).length+r.length+p=e.length:=by
  have:=congrArg List.length hp;have h2:p<e.length:=by
   rcases p9 p e.length with h|h
   ·exact h
   ·rw [m6 h] at hp;cases hp
  simp at this ⊢;omega
 have Gd:p<e.length:=by simp at hpe;omega
 have h0:nth e p=t/\e.drop (p+1)=L0 l++r:=by
  rw [A8 Gd] at hp;simp only [D9,List.cons.injEq] at hp;exact hp
 obtain ⟨h0,hp1⟩:=h0;obtain ⟨hok,Yz,Vc⟩:=hw;have hl3:l.length<=3:=by have:=nr t.op;omega
 have UI:lE t.op=l.length:=by
  simp only [wR,b5,j5] at hok;have:=z8 hok.1;omega
 refine Pf.run [eA e,.d (num p),.d (ints ty),.any,.any,.any,.any,.any,.any,.any,.any,.any,.any,.any,.any,.any,.any] rfl rfl rfl rfl ?_;refine gr ?_;rw [h0];refine gr ?_;refine clT (NP t.op) (h2:= ?_);rw [UI];refine gr ?_;refine Ex.J1 (fun k T H=>∃ (i q:Nat) (l1 l2:List aD) (ts:List Int) (v1 v3 v4 v5 v9 v10 v11 v12 v13 v14:b6),T=[eA e,v1,.d (ints ty),v3,v4,v5,.ptr 0 0,.d (num q),.ptr 1 0,v9,v10,v11,v12,v13,v14,.d (num l.length),.d (num i)]/\H=[.cells (t.enc.map .d),.cells (three ts)]/\i=l1.length/\k=l2.length/\l=l1++l2/\ts.length=i/\(fP ty l).1=ts++(fP ty l2).1/\(fP ty l).2=(fP ty l2).2/\e.drop q=L0 l2++r/\q+(L0 l2).length=p+(t::L0 l).length) (by rintro _ _ _ ⟨_,_,_,_,_,_,_,_,_,_,_,_,_,_,_,_,rfl,_⟩;rfl) ?_ (k:=l.length) ⟨0,p+1,[],l,[],_,_,_,_,_,_,_,_,_,_,rfl,by simp only [three,uV];rfl,rfl,rfl,rfl,rfl,rfl,rfl,hp1,by simp;omega⟩;rintro k _ _ ⟨i,q,l1,l2,ts,v1,v3,v4,v5,v9,v10,v11,v12,v13,v14,rfl,rfl,uB,hk,hl,hts,e1,e2,hq,hqe⟩;have hlen:l.length=l1.length+l2.length:=by rw [hl];simp
 refine Ex.nT ?_;refine Ex.seq ?_;refine tb (C7 i l.length) (fun h3=> ?_) (fun h3=> ?_)
 ·have h4:=A4 h3
  cases l2 with
  |nil=>simp at hlen;omega
  |cons a l2 =>
  have ha:a ∈ l:=by rw [hl];simp
  have dM:=ih a q (L0 l2++r) (by have:=we ha;simp at hn;omega) (by rw [hq];simp [L0]) (HT Vc ha);simp only [fP] at e1 e2;simp only [L0,C1] at hqe
  repeat' (first|refine cl (dM) ?_|refine gx ?_|fail)
  refine tb (!o9 (a.typ ty).2 0) (fun h5=> ?_) (fun h5=> ?_)
  ·simp only [j5] at h5
   simp only [h5,b7,if_false] at e1 e2;refine gr ?_;refine ⟨_,rfl,?_⟩;simp [b9,aD.typ,e2,h5,b6.G9,num]
  ·simp only [A7] at h5
   simp only [h5,if_true] at e1 e2 ⊢;refine gr ?_;have h6:e.drop (q+a.flat.length)=L0 l2++r:=by
    rw [<- List.drop_drop,hq,L0,List.append_assoc,List.drop_left]
   have h7:ts=[]\/(∃ x,ts=[x])\/∃ x y,ts=[x,y]:=by
    match ts,hts with
    |[],_=>exact Or.inl rfl
    |[x],_=>exact Or.inr (Or.inl ⟨x,rfl⟩)
    |[x,y],_=>exact Or.inr (Or.inr ⟨x,y,rfl⟩)
    |x::y::z::w,h=>simp at h;omega
   rcases h7 with rfl|⟨x,rfl⟩|⟨x,y,rfl⟩
   ·simp only [List.length_nil] at hts
    refine ipp (e:=(i:Int)) (o2:=0) 0 (by omega) rfl (by decide) ?_;unfold three;refine gr ?_;exact ⟨l2.length,by simp at hk;omega,i+1,q+a.flat.length,l1++[a],l2,[(a.typ ty).1],_,_,_,_,_,_,_,_,_,_,rfl,by simp only [three,uV,T9,mA],by simp [uB],rfl,by simp [hl],by simp;omega,by simpa using e1,e2,h6,by omega⟩
   ·simp only [A2,List.length_nil] at hts
    refine ipp (e:=(i:Int)) (o2:=1) 1 (by omega) rfl (by decide) ?_;unfold three;refine gr ?_;exact ⟨l2.length,by simp at hk;omega,i+1,q+a.flat.length,l1++[a],l2,[x,(a.typ ty).1],_,_,_,_,_,_,_,_,_,_,rfl,by simp only [three,uV,T9,mA],by simp [uB],rfl,by simp [hl],by simp;omega,by simpa using e1,e2,h6,by omega⟩
   ·simp only [A2,List.length_nil] at hts
    refine ipp (e:=(i:Int)) (o2:=2) 2 (by omega) rfl (by decide) ?_;unfold three;refine gr ?_;exact ⟨l2.length,by simp at hk;omega,i+1,q+a.flat.length,l1++[a],l2,[x,y,(a.typ ty).1],_,_,_,_,_,_,_,_,_,_,rfl,by simp only [three,uV,T9,mA],by simp [uB],rfl,by simp [hl],by simp;omega,by simpa using e1,e2,h6,by omega⟩
 ·have h4:=z8 h3
  cases l2 with
  |cons a l2=>simp at hlen;omega
  |nil =>
  simp only [fP,List.append_nil] at e1 e2;have WX:ts.length=l.length:=by simp at hlen;omega
  have htg:∀ x,x ∈ ts->good x:=by rw [<- e1];exact tr dV l Vc
  refine gr ?_;refine tb (o9 t.op 2&&W6 ty.length t.col) (fun h5=> ?_) (fun h5=> ?_)
  ·simp only [b5] at h5
   have h6:o9 t.op 1=false:=by have:=X2 h5.1;simp [j9];omega
   refine gr ?_;refine ⟨_,rfl,?_⟩;simp [b9,aD.typ,e2,h5,h6,zg,b6.G9,num,j9]
  have GM:t.op≠2\/(0<=t.col/\t.col<ty.length):=by
   cases h6:o9 t.op 2 with
   |false=>exact Or.inl (qp h6)
   |true =>
    right;have h7:o9 t.op 1=false:=by have:=X2 h6;simp [j9];omega
    simp only [h6,Bool.true_and] at h5;simp only [wR,de,h6,h7,if_true,b7,if_false,b5] at hok;exact ⟨qD hok.2.2,zS h5⟩
  have ax0:=Sw (ty:=ty) (t:=t) (ts:=ts) htg (fun h=>by simpa [h] using h5)
   (fun h=>by have h8:=X2 h;have h9:=UI;unfold lE at h9;rw [h8] at h9;simp [j9,p5] at h9;omega)
   (fun h=>by have h8:=X2 h;have h9:=UI;unfold lE at h9;rw [h8] at h9;simp [j9,p5] at h9;omega)
  have hz:o9 (fP ty l).2 0=true:=by rw [e2];simp [j9]
  have wB:(aD.node t l).typ ty=if (Cc ty t (nth ts 0) (nth ts 1) (nth ts 2)).2 then ((Cc ty t (nth ts 0) (nth ts 1) (nth ts 2)).1,0) else (0,5):=by
   simp only [aD.typ,hz,if_true,e1,ax0]
  unfold three
  repeat' (first|refine cl (ZV ty t _ _ _ GM) ?_|refine gx ?_|fail)
  rw [wB];cases h6:(Cc ty t (nth ts 0) (nth ts 1) (nth ts 2)).2 with
  |false =>
   refine tb (true) (fun h7=> ?_) (fun h7=> ?_)
   ·refine gr ?_
    refine ⟨_,rfl,?_⟩;simp [b9,b6.G9,num,j9]
   ·cases h7
  |true =>
   refine tb (false) (fun h7=> ?_) (fun h7=> ?_)
   ·cases h7
   refine gr ?_;refine ⟨_,rfl,?_⟩;simp only [L0,List.length_nil,Nat.add_zero] at hqe;simp [b9,b6.G9,num,j9,hqe]
theorem Fb {e:List aG}{a:aD}(h:eD e=some a):e=a.flat/\a.wf/\a.dep<=16:=by
 unfold eD at h;split at h
 ·split at h
  ·rename_i b h4
   obtain ⟨e1,e2,e3⟩:=R9 16 e b [] h4;cases h;exact ⟨by simpa using e1,e2,e3⟩
  ·cases h
 ·cases h
set_option maxHeartbeats 2000000 in
theorem Ec (e:List aG)(ty:List Int)(he:e.length<=1000)(ht:ty.length<=100000):Pf A 153 [eA e,.d (ints ty)] (pair (F7 e ty)):=by
 refine Pf.run [eA e,.d (ints ty),.any,.any,.any,.any,.any,.any,.any,.any] rfl rfl rfl rfl ?_;refine gr ?_;refine tB (!eC e) ?_ (fun h1=> ?_) (fun h1=> ?_)
 ·repeat' (first|refine cl (ZP e he) ?_|refine gx ?_|refine fk (h1:=fun hw=> ?_) (h2:=fun hw=> ?_)|refine L3 (h1:=fun hw=> ?_) (h2:=fun hw=> ?_)|refine ⟨rfl,rfl,_,rfl,?_⟩|refine ⟨rfl,rfl⟩|fail)
  all_goals exact cc
 ·refine gr ?_
  refine ⟨_,rfl,?_⟩;rw [gF] at h1;cases h2:eD e with
  |none=>simp [F7,h2,b9,pair,num,b6.G9]
  |some a=>simp [h2] at h1
 rw [gF] at h1;cases h2:eD e with
 |none=>simp [h2] at h1
 |some a =>
 have h3:=Fb h2;refine gr ?_;refine Ex.J1 (fun k T H=>∃ (i:Nat) (v w x y z:b6),T=[eA e,.d (ints ty),v,w,x,y,z,.d (ints ty),.d (num ty.length),.d (num i)]/\H=[]/\i+k=ty.length/\aQ ty=aQ (ty.drop i)) (by rintro _ _ _ ⟨_,_,_,_,_,_,_,rfl,_⟩;rfl) ?_ (k:=ty.length) ⟨0,_,_,_,_,_,rfl,rfl,by simp,by simp⟩;rintro k _ _ ⟨i,v,w,x,y,z,rfl,rfl,hk,hi⟩;refine Ex.nT ?_;refine Ex.seq ?_;refine tb (C7 i ty.length) (fun h4=> ?_) (fun h4=> ?_)
 ·have h5:=A4 h4
  rw [A8 (by omega)] at hi;refine gr ?_;refine tb (!o9 (nth ty i) 1&& !o9 (nth ty i) 2) (fun h6=> ?_) (fun h6=> ?_)
  ·refine gr ?_
   refine ⟨_,rfl,?_⟩;have h7:aQ ty=false:=by
    rw [hi];simp only [b5,j5] at h6;simp [aQ,h6]
   simp [F7,h2,h7,b9,pair,num,b6.G9]
  ·refine gr ?_
   refine ⟨k - 1,by omega,i+1,_,_,_,_,_,rfl,rfl,by omega,?_⟩;rw [hi];simp only [aQ,List.all_cons];cases h7:o9 (nth ty i) 1<;>cases h8:o9 (nth ty i) 2<;>simp_all
 ·have h5:=z8 h4
  rw [m6 (by omega)] at hi;have hg:aQ ty=true:=by rw [hi];rfl
  have h6:=ZQ ty hg e he e.length a 0 [] (by rw [h3.1];omega) (by rw [<- h3.1];simp) h3.2.1
  repeat' (first|refine cl (h6) ?_|refine gx ?_|fail)
  refine ⟨_,rfl,?_⟩;simp [F7,h2,hg,b9,pair,b6.G9]
end Go.Proofs.YtkmclibmmlgogaaGreat

