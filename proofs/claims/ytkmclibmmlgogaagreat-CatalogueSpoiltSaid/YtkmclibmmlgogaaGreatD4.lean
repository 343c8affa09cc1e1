/- Texts D13 D9 D10 D11 D12 (made short by a program) -/
import Derived.Test.YtkmclibmmlgogaaGreatD3
set_option linter.unusedVariables false
set_option linter.unusedSimpArgs false
open Bool renaming and_eq_true → b5, false_eq_true → b7, not_eq_false' → A9, not_eq_true' → j5
open List renaming cons_append → L6, drop_of_length_le → k9, length_append → E0, length_cons → B7
open Nat renaming lt_or_ge → u9
namespace Go.Proofs.YtkmclibmmlgogaaGreat
open Go.y3 Go.y3.S
attribute [local irreducible] Rx Ry Rn Ex Pf
theorem al5 (n:Int):Pf A 180 [.d (.int .u8 n)] (.d (.bool (bz n))):=by
 refine Pf.run [.d (.int .u8 n),.any] rfl rfl rfl rfl ?_
 repeat' (first|refine gx ?_|refine fk (h1:=fun hw=> ?_) (h2:=fun hw=> ?_)|refine L7 (h1:=fun hw=> ?_) (h2:=fun hw=> ?_)|refine Ex.H7 ?_|refine Ex.H8 ?_|refine Ex.cond rfl (fun ht=> ?_) (fun ht=> ?_)|refine Ex.test (Rn.text ?_)|refine Ex.test (Rn.draw ?_)|refine ⟨_,rfl,fun ht=> ?_,fun ht=> ?_⟩|refine ⟨_,rfl,?_⟩|fail)
 all_goals simp_all [b8,bz]
theorem al6 (n:Int):Pf A 181 [.d (.int .u8 n)] (.d (.bool (jf n))):=by
 refine Pf.run [.d (.int .u8 n),.any] rfl rfl rfl rfl ?_
 repeat' (first|refine gx ?_|refine fk (h1:=fun hw=> ?_) (h2:=fun hw=> ?_)|refine L7 (h1:=fun hw=> ?_) (h2:=fun hw=> ?_)|refine Ex.H7 ?_|refine Ex.H8 ?_|refine Ex.cond rfl (fun ht=> ?_) (fun ht=> ?_)|refine Ex.test (Rn.text ?_)|refine Ex.test (Rn.draw ?_)|refine ⟨_,rfl,fun ht=> ?_,fun ht=> ?_⟩|refine ⟨_,rfl,?_⟩|fail)
 all_goals simp_all [b8,jf]
def Hx (first:Bool):D8->Nat
 |[]=>0
 |c::r=>if bz c.toNat||(!first&&(jf c.toNat||o9 c.toNat 95)) then Hx false r+1 else 0
theorem PD:∀ (b:Bool) (s:D8),Hx b s<=s.length
 |_,[]=>by simp [Hx]
 |b,c::r=>by
  have:=PD false r;simp only [Hx];split<;>simp<;>omega
theorem JZ:∀ s:D8,(Hx false s==s.length)=s.all fun c=>kK c.toNat
 |[]=>rfl
 |c::r=>by
  have h1:=JZ r;have h2:=PD false r;have hc:kK c.toNat=(bz c.toNat||jf c.toNat||o9 c.toNat 95):=rfl;rw [List.all_cons,<- h1,hc];simp only [Hx,Bool.not_false,Bool.true_and];cases bz c.toNat<;>cases jf c.toNat<;>cases o9 c.toNat 95<;>simp
theorem PE (s:D8):E3 s=(!J2 s []&&W8 s.length 16&&o9 (Hx true s) s.length):=by
 cases s with
 |nil=>simp [E3,B8]
 |cons c r =>
  have h1:=JZ r;have h3:J2 (c::r) []=false:=by simp [B8]
  have hc:kK c.toNat=(bz c.toNat||jf c.toNat||o9 c.toNat 95):=rfl;simp only [E3,h3,Bool.not_false,Bool.true_and,Hx,Bool.not_true,Bool.false_and,Bool.or_false];rw [List.all_cons,<- h1,hc];cases h:bz c.toNat with
  |false=>simp [j9];intros;omega
  |true =>
   simp only [if_true,Bool.and_true,Bool.true_or,Bool.true_and];have e1:C9 r.length 16=W8 (c::r).length 16:=by
    simp only [p5,p4,B7];exact decide_eq_decide.2 (by omega)
   have e2:(Hx false r==r.length)=o9 (Hx false r+1:Nat) (c::r).length:=by
    simp only [j9,B7];rw [Bool.eq_iff_iff];simp only [beq_iff_eq];omega
   rw [e1,e2]
set_option maxHeartbeats 2000000 in
theorem al0 (s:D8)(hs:s.length<=100000):Pf A 170 [.d (.str s)] (.d (num (Hx true s))):=by
 refine Pf.run [.d (.str s),.any,.any] rfl rfl rfl rfl ?_;refine gr ?_;refine Ex.J0 (fun k T H=>∃ (i:Nat) (v:b6),T=[.d (.str s),v,.d (num i)]/\H=[]/\i+k=s.length/\Hx true s=i+Hx (!C9 0 i) (s.drop i)) (by rintro _ _ _ ⟨_,_,_,rfl,_⟩;rfl) ?_ (k:=s.length) ⟨0,_,rfl,rfl,by simp,by simp [p5]⟩;rintro k _ _ ⟨i,v,rfl,rfl,hk,hi⟩;refine Ex.nT ?_;refine Ex.seq ?_;refine tB (C9 i s.length&&(bz (nth s i).toNat||(C9 0 i&&(jf (nth s i).toNat||o9 (nth s i).toNat 95)))) ?_ (fun h1=> ?_) (fun h1=> ?_)
 ·repeat' (first|refine cl (al5 _) ?_|refine cl (al6 _) ?_|refine gx ?_|refine fk (h1:=fun hw=> ?_) (h2:=fun hw=> ?_)|refine L7 (h1:=fun hw=> ?_) (h2:=fun hw=> ?_)|refine ⟨rfl,rfl,_,rfl,?_⟩|refine ⟨rfl,rfl⟩|fail)
  all_goals exact cc
 ·simp only [b5] at h1
  have h2:=y9 h1.1;rw [A2 (by omega),Hx,Bool.not_not,h1.2,if_pos rfl] at hi;refine gr ?_;refine ⟨k - 1,by omega,i+1,_,rfl,rfl,by omega,?_⟩;have h3:C9 0 ((i+1:Nat):Int)=true:=by simp only [p5,decide_eq_true_eq];omega
  rw [hi,h3,Bool.not_true];omega
 ·refine gr ?_
  refine ⟨_,rfl,?_⟩;have h3:Hx (!C9 0 i) (s.drop i)=0:=by
   rcases u9 i s.length with h|h
   ·have h4:C9 i s.length=true:=by simp [p5];omega
    rw [h4,Bool.true_and] at h1;rw [A2 h,Hx,Bool.not_not,h1];rfl
   ·rw [k9 h];rfl
  rw [hi,h3];rfl
theorem aL8 {s:D8}(h:W8 s.length 16=true):s.length<=100000:=by have:=qV h;omega
theorem AW (s:D8):Pf A 146 [.d (.str s)] (.d (.bool (E3 s))):=by
 rw [PE];refine Pf.run [.d (.str s),.any] rfl rfl rfl rfl ?_
 repeat' (first|refine cl (al0 s (aL8 hw)) ?_|refine gx ?_|refine fk (h1:=fun hw=> ?_) (h2:=fun hw=> ?_)|refine L7 (h1:=fun hw=> ?_) (h2:=fun hw=> ?_)|refine Ex.H7 ?_|refine Ex.H8 ?_|refine Ex.cond rfl (fun ht=> ?_) (fun ht=> ?_)|refine Ex.test (Rn.text ?_)|refine Ex.test (Rn.draw ?_)|refine ⟨_,rfl,fun ht=> ?_,fun ht=> ?_⟩|refine ⟨_,rfl,?_⟩|fail)
 all_goals exact cc
set_option maxHeartbeats 4000000 in
theorem VE (t:aE):Pf A 188 [ZF t] (.d (.bool (xR t))):=by
 refine Pf.run [ZF t,.any,.any] rfl rfl rfl rfl ?_
 repeat' (first|refine cl (Qc _) ?_|refine cl (am0 _ _ _) ?_|refine gx ?_|refine fk (h1:=fun hw=> ?_) (h2:=fun hw=> ?_)|refine L7 (h1:=fun hw=> ?_) (h2:=fun hw=> ?_)|refine Ex.H7 ?_|refine Ex.H8 ?_|refine Ex.cond rfl (fun ht=> ?_) (fun ht=> ?_)|refine Ex.test (Rn.text ?_)|refine Ex.test (Rn.draw ?_)|refine ⟨_,rfl,fun ht=> ?_,fun ht=> ?_⟩|refine ⟨_,rfl,?_⟩|fail)
 all_goals simp only [b8,xR,dn,zeroV, *]
 all_goals simp [*,j9,B8,Bool.and_comm,Bool.and_left_comm,Bool.and_assoc]
 done
def fo (e:List aE)(p:Nat):Nat×Nat:=match M1 (e.length+1) (e.drop p) with
 |none=>(0,p)
 |some (a,r)=>(a.dep,e.length - r.length)
def qW (e:List aE)(k m p:Nat):Option (Nat×Nat):=match cO (M1 e.length) k (e.drop p) with
 |none=>none
 |some (l,r)=>some (max m (kC l),e.length - r.length)
theorem Cw (a:aI):0<a.dep:=by
 cases a;simp [aI.dep]
theorem uu (e:List aE)(p:Nat)(hp:0<p):(fo e p=(0,p)/\M1 e.length (e.drop p)=none)\/∃ (q:Nat) (a:aI),fo e p=(a.dep,q)/\q<=e.length/\p<=q/\M1 e.length (e.drop p)=some (a,e.drop q):=by
 have h0:M1 (e.length+1) (e.drop p)=M1 e.length (e.drop p):=CW (by simp;omega) (by simp);simp only [fo,h0]
 rcases pM e e.length p with ⟨h1,h2⟩|⟨q,h1,h3,h4,a,h2⟩
 ·exact Or.inl ⟨by rw [h2],h2⟩
 ·refine Or.inr ⟨q,a,?_,h3,h4,h2⟩
  rw [h2];simp only [List.length_drop]
  congr 1
  omega
theorem Iu {e:List aE}{k m p:Nat}(hp:0<p):qW e (k+1) m p=if (fo e p).1=0 then none else qW e k (max m (fo e p).1) (fo e p).2:=by
 rcases uu e p hp with ⟨h1,h2⟩|⟨q,a,h1,_,_,h2⟩
 ·simp only [qW,cO,h2,h1,if_true]
 ·have:=Cw a
  rw [h1,if_neg (by simp only;omega)];simp only [qW,cO,h2];cases cO (M1 e.length) k (e.drop q) with
  |none=>rfl
  |some x =>
   obtain ⟨l,r⟩:=x;simp only [kC,Option.some.injEq,Prod.mk.injEq,and_true];omega
theorem Iv {e:List aE}{p:Nat}(hp:p<e.length)(h:xR (nth e p)=true):fo e p=match qW e (lU (nth e p).op).toNat 0 (p+1) with
  |none=>(0,p)
  |some (d,q)=>(d+1,q):=by
 simp only [fo,qW];rw [A2 hp,M1,h,if_pos rfl];cases cO (M1 e.length) (lU (nth e p).op).toNat (e.drop (p+1)) with
 |none=>rfl
 |some x =>
  obtain ⟨l,r⟩:=x;simp [aI.dep]
theorem xG {e:List aE}{p:Nat}(h:e.length<=p\/xR (nth e p)=false):fo e p=(0,p):=by
 simp only [fo]
 rcases h with h|h
 ·rw [k9 h]
  rfl
 ·rcases u9 p e.length with hp|hp
  ·rw [A2 hp,M1,h,if_neg (by simp)]
  ·rw [k9 hp]
   rfl
set_option maxHeartbeats 4000000 in
theorem al7 (e:List aE)(he:e.length<=1000):∀ m p:Nat,e.length<=p+m->p<=2000->Pf A 183 [eH e,.d (num p)] (.tuple [.d (num (fo e p).1),.d (num (fo e p).2)]):=by
 intro m
 induction m with
 |zero =>
  intro p hm hp;refine Pf.run [eH e,.d (num p),.any,.any,.any,.any,.any,.any,.any,.any] rfl rfl rfl rfl ?_;refine gr ?_;refine tB (true) ?_ (fun h1=> ?_) (fun h1=> ?_)
  ·repeat' (first|refine cl (VE _) ?_|refine gx ?_|refine fk (h1:=fun hw=> ?_) (h2:=fun hw=> ?_)|refine L7 (h1:=fun hw=> ?_) (h2:=fun hw=> ?_)|refine ⟨rfl,rfl,_,rfl,?_⟩|refine ⟨rfl,rfl⟩|fail)
   all_goals exact cc
  ·refine gr ?_
   exact ⟨_,rfl,by rw [xG (Or.inl (by omega))];rfl⟩
  ·cases h1
 |succ m ih =>
  intro p hm hp;refine Pf.run [eH e,.d (num p),.any,.any,.any,.any,.any,.any,.any,.any] rfl rfl rfl rfl ?_;refine gr ?_;refine tB (W8 e.length p|| !xR (nth e p)) ?_ (fun h1=> ?_) (fun h1=> ?_)
  ·repeat' (first|refine cl (VE _) ?_|refine gx ?_|refine fk (h1:=fun hw=> ?_) (h2:=fun hw=> ?_)|refine L7 (h1:=fun hw=> ?_) (h2:=fun hw=> ?_)|refine ⟨rfl,rfl,_,rfl,?_⟩|refine ⟨rfl,rfl⟩|fail)
   all_goals exact cc
  ·refine gr ?_
   refine ⟨_,rfl,?_⟩;rw [xG]
   ·rfl
   ·simp only [Bool.or_eq_true,j5] at h1
    rcases h1 with h|h
    ·have:=qV h;left;omega
    ·exact Or.inr h
  simp only [Bool.or_eq_false_iff,A9] at h1;have h2:=AR h1.1;have h3:=nP (nth e p).op;have h4:0<=lU (nth e p).op:=by
   have:=h1.2;simp only [xR,b5,j5] at this;exact y8 this.1
  repeat' (first|refine clT (Qc _) (h2:= ?_)|refine gx ?_|fail)
  refine Ex.J0 (fun k T H=>∃ (i q d:Nat) (v2 v3 v6 v7:b6),T=[eH e,.d (num p),v2,v3,.d (num d),.d (num q),v6,v7,.d (num (lU (nth e p).op)),.d (num i)]/\H=[]/\(i:Int)+k=lU (nth e p).op/\p<q/\q<=e.length/\d<=2000/\fo e p=(match qW e k d q with|none=>(0,p)|some (d,q)=>(d+1,q))) (by rintro _ _ _ ⟨_,_,_,_,_,_,_,_,rfl,_⟩;rfl) ?_ (k:=(lU (nth e p).op).toNat) ⟨0,p+1,0,_,_,_,_,rfl,rfl,by omega,by omega,by omega,by omega,Iv (by omega) h1.2⟩;rintro k _ _ ⟨i,q,d,v2,v3,v6,v7,rfl,rfl,hk,hpq,hq,hd,hi⟩;refine Ex.nT ?_;refine Ex.seq ?_;refine tb (C9 i (lU (nth e p).op)) (fun h5=> ?_) (fun h5=> ?_)
  ·have h6:=y9 h5
   obtain ⟨k,rfl⟩:∃ k',k=k' +1:=⟨k - 1,by omega⟩;rw [Iu (by omega)] at hi;have h7:=ih q (by omega) (by omega)
   rcases uu e q (by omega) with ⟨e1,_⟩|⟨q',a,e1,e2,e3,e4⟩
   ·rw [e1] at hi h7
    rw [if_pos rfl] at hi
    repeat' (first|refine cl (h7) ?_|refine gx ?_|fail)
    refine tb (true) (fun h8=> ?_) (fun h8=> ?_)
    ·refine gr ?_
     exact ⟨_,rfl,by rw [hi];rfl⟩
    ·cases h8
   ·rw [e1] at hi h7
    have e5:=Cw a;have e6:a.dep<=1000:=by
     have:=(S5 _ _ _ _ e4).2.2;omega
    rw [if_neg (by simp only;omega)] at hi
    repeat' (first|refine cl (h7) ?_|refine gx ?_|fail)
    refine tb (false) (fun h8=> ?_) (fun h8=> ?_)
    ·cases h8
    refine gr ?_;have e7:(if (a.dep:Int)>(d:Int) then (a.dep:Int) else (d:Int))=((max d a.dep:Nat):Int):=by split<;>omega
    exact ⟨k,by omega,i+1,q',max d a.dep,_,_,_,_,by rw [<- e7];rfl,rfl,by omega,by omega,e2,by omega,hi⟩
  ·have h6:=y8 h5
   obtain rfl:k=0:=by omega
   refine gr ?_;refine ⟨_,rfl,?_⟩;have h8:qW e 0 d q=some (d,q):=by
    simp only [qW,cO,kC,List.length_drop,Option.some.injEq,Prod.mk.injEq];omega
   rw [hi,h8];rfl
set_option maxHeartbeats 2000000 in
theorem al2 (e:List aE)(he:e.length<=1000):Pf A 174 [eH e] (.d (.bool (eN e))):=by
 have h0:=al7 e he e.length 0 (by omega) (by omega);refine Pf.run [eH e,.any,.any,.any] rfl rfl rfl rfl ?_
 repeat' (first|refine df ?_|refine gx ?_|fail)
 refine tb (C9 64 e.length) (fun h1=> ?_) (fun h1=> ?_)
 ·refine gr ?_
  refine ⟨_,rfl,?_⟩;have:=y9 h1;have:eN e=false:=by simp [eN,p4];omega
  rw [this];rfl
 have h2:=y8 h1;have h3:eN e=(C9 0 (fo e 0).1&&W8 (fo e 0).1 16&&o9 (fo e 0).2 e.length):=by
  rw [gZ];have h4:(eO e).isSome=(decide (1<=e.length)&&(match M1 16 e with|some (_,[])=>true|_=>false)):=by
   unfold eO
   by_cases h5:1<=e.length
   ·have:(W8 1 e.length&&W8 e.length 64)=true:=by simp [p4];omega
    rw [this,if_pos rfl];simp only [h5,decide_true,Bool.true_and];split<;>simp_all
   ·have:(W8 1 e.length&&W8 e.length 64)=false:=by simp [p4];omega
    rw [this,if_neg (by simp)];simp [h5]
  rw [h4];simp only [fo,List.drop_zero];cases h5:M1 (e.length+1) e with
  |none =>
   have h6:M1 16 e=none:=by
    cases h7:M1 16 e with
    |none=>rfl
    |some x =>
     obtain ⟨a,r⟩:=x;obtain ⟨g1,g2,g3⟩:=S5 16 e a r h7;have:=mh a;have hl:a.flat.length<=e.length:=by rw [g1];simp
     have:=W2 a (e.length+1) r g2 (by omega);rw [<- g1,h5] at this;cases this
   simp [h6,p5]
  |some x =>
   obtain ⟨a,r⟩:=x;obtain ⟨g1,g2,g3⟩:=S5 _ e a r h5;have hp:=Cw a;have hf:=gK a;have hl:a.flat.length+r.length=e.length:=by rw [g1];simp
   by_cases h7:a.dep<=16
   ·have:=W2 a 16 r g2 h7
    rw [<- g1] at this;rw [this];cases r with
    |nil =>
     have e1:decide (1<=e.length)=true:=by simp at hl ⊢;omega
     have e2:C9 0 a.dep=true:=by simp only [p5,decide_eq_true_eq];omega
     have e3:W8 a.dep 16=true:=by simp only [p4,decide_eq_true_eq];omega
     have e4:o9 ((e.length - ([]:List aE).length:Nat):Int) e.length=true:=by simp [j9]
     simp only [e1,e2,e3,e4,Bool.and_self]
    |cons t r =>
     have e4:o9 ((e.length - (t::r).length:Nat):Int) e.length=false:=by simp only [j9,beq_eq_false_iff_ne];simp only [B7] at hl ⊢;omega
     simp only [e4,Bool.and_false]
   ·have h8:M1 16 e=none:=by
     cases h9:M1 16 e with
     |none=>rfl
     |some y =>
      obtain ⟨b,s⟩:=y;obtain ⟨k1,k2,k3⟩:=S5 16 e b s h9;have hfb:=mh b;have nY:b.flat.length<=e.length:=by rw [k1];simp
      have:=W2 b (e.length+1) s k2 (by omega);rw [<- k1,h5] at this;cases this;exact absurd k3 h7
    rw [h8];simp [p5,p4,j9];omega
 rw [h3]
 repeat' (first|refine cl (h0) ?_|refine gx ?_|refine fk (h1:=fun hw=> ?_) (h2:=fun hw=> ?_)|refine L7 (h1:=fun hw=> ?_) (h2:=fun hw=> ?_)|refine Ex.H7 ?_|refine Ex.H8 ?_|refine Ex.cond rfl (fun ht=> ?_) (fun ht=> ?_)|refine Ex.test (Rn.text ?_)|refine Ex.test (Rn.draw ?_)|refine ⟨_,rfl,fun ht=> ?_,fun ht=> ?_⟩|refine ⟨_,rfl,?_⟩|fail)
 all_goals exact cc
set_option maxHeartbeats 16000000 in
theorem al8 (ty:List Int)(t:aE)(a b c:Int)(hc:t.op≠2\/(0<=t.col/\t.col<ty.length)):Pf A 185 [ZF t,.agg [.d (num a),.d (num b),.d (num c)],.d (ints ty)] (.tuple [.d (num (Dd ty t a b c).1),.d (.bool (Dd ty t a b c).2)]):=by
 refine Pf.run [ZF t,.agg [.d (num a),.d (num b),.d (num c)],.d (ints ty),.any,.any,.any,.any,.any,.any,.any,.any,.any,.any] rfl rfl rfl rfl ?_
 repeat' (first|refine gx ?_|refine fk (h1:=fun hw=> ?_) (h2:=fun hw=> ?_)|refine L7 (h1:=fun hw=> ?_) (h2:=fun hw=> ?_)|refine Ex.H7 ?_|refine Ex.H8 ?_|refine Ex.cond rfl (fun ht=> ?_) (fun ht=> ?_)|refine Ex.test (Rn.text ?_)|refine Ex.test (Rn.draw ?_)|refine ⟨_,rfl,fun ht=> ?_,fun ht=> ?_⟩|refine ⟨_,rfl,?_⟩|fail)
 all_goals simp only [b8,Dd, *,List.map_cons,List.map_nil,b6.G4]
 all_goals simp [*,num]
def three (ts:List Int):List b6:=[.d (num (nth ts 0)),.d (num (nth ts 1)),.d (num (nth ts 2))]
set_option maxHeartbeats 8000000 in
theorem al3 (ty:List Int)(eg:aU ty=true)(e:List aE)(he:e.length<=1000):∀ (n:Nat) (a:aI) (p:Nat) (r:List aE),a.flat.length<=n->e.drop p=a.flat++r->a.wf ->
  Pf A 175 [eH e,.d (num p),.d (ints ty)] (.tuple [.d (num (a.typ ty).1),.d (num (if o9 (a.typ ty).2 0 then ((p+a.flat.length:Nat):Int) else 0)),.d (num (a.typ ty).2)]):=by
 intro n
 induction n with
 |zero=>intro a p r h;have:=gK a;omega
 |succ n ih =>
 rintro ⟨t,l⟩ p r hn hp hw;simp only [aI.flat] at hn hp ⊢;have hpe:(t::L8 l).length+r.length+p=e.length:=by
  have:=congrArg List.length hp;have h2:p<e.length:=by
   rcases u9 p e.length with h|h
   ·exact h
   ·rw [k9 h] at hp;cases hp
  simp at this ⊢;omega
 have DM:p<e.length:=by simp at hpe;omega
 have h0:nth e p=t/\e.drop (p+1)=L8 l++r:=by
  rw [A2 DM] at hp;simp only [L6,List.cons.injEq] at hp;exact hp
 obtain ⟨h0,hp1⟩:=h0;obtain ⟨hok,har,Xc⟩:=hw;have hl3:l.length<=3:=by have:=nP t.op;omega
 have WI:lU t.op=l.length:=by
  simp only [xR,b5,j5] at hok;have:=y8 hok.1;omega
 refine Pf.run [eH e,.d (num p),.d (ints ty),.any,.any,.any,.any,.any,.any,.any,.any,.any,.any,.any,.any,.any,.any] rfl rfl rfl rfl ?_;refine gr ?_;rw [h0];refine gr ?_;refine clT (Qc t.op) (h2:= ?_);rw [WI];refine gr ?_;refine Ex.J0 (fun k T H=>∃ (i q:Nat) (l1 l2:List aI) (ts:List Int) (v1 v3 v4 v5 v9 v10 v11 v12 v13 v14:b6),T=[eH e,v1,.d (ints ty),v3,v4,v5,.ptr 0 0,.d (num q),.ptr 1 0,v9,v10,v11,v12,v13,v14,.d (num l.length),.d (num i)]/\H=[.cells (t.enc.map .d),.cells (three ts)]/\i=l1.length/\k=l2.length/\l=l1++l2/\ts.length=i/\(gm ty l).1=ts++(gm ty l2).1/\(gm ty l).2=(gm ty l2).2/\e.drop q=L8 l2++r/\q+(L8 l2).length=p+(t::L8 l).length) (by rintro _ _ _ ⟨_,_,_,_,_,_,_,_,_,_,_,_,_,_,_,_,rfl,_⟩;rfl) ?_ (k:=l.length) ⟨0,p+1,[],l,[],_,_,_,_,_,_,_,_,_,_,rfl,by simp only [three,vS];rfl,rfl,rfl,rfl,rfl,rfl,rfl,hp1,by simp;omega⟩;rintro k _ _ ⟨i,q,l1,l2,ts,v1,v3,v4,v5,v9,v10,v11,v12,v13,v14,rfl,rfl,Ac,hk,hl,hts,e1,e2,hq,hqe⟩;have hlen:l.length=l1.length+l2.length:=by rw [hl];simp
 refine Ex.nT ?_;refine Ex.seq ?_;refine tb (C9 i l.length) (fun h3=> ?_) (fun h3=> ?_)
 ·have h4:=y9 h3
  cases l2 with
  |nil=>simp at hlen;omega
  |cons a l2 =>
  have ha:a ∈ l:=by rw [hl];simp
  have fR:=ih a q (L8 l2++r) (by have:=xj ha;simp at hn;omega) (by rw [hq];simp [L8]) (Jg Xc ha);simp only [gm] at e1 e2;simp only [L8,E0] at hqe
  repeat' (first|refine cl (fR) ?_|refine gx ?_|fail)
  refine tb (!o9 (a.typ ty).2 0) (fun h5=> ?_) (fun h5=> ?_)
  ·simp only [j5] at h5
   simp only [h5,b7,if_false] at e1 e2;refine gr ?_;refine ⟨_,rfl,?_⟩;simp [b8,aI.typ,e2,h5,b6.G4,num]
  ·simp only [A9] at h5
   simp only [h5,if_true] at e1 e2 ⊢;refine gr ?_;have h6:e.drop (q+a.flat.length)=L8 l2++r:=by
    rw [<- List.drop_drop,hq,L8,List.append_assoc,List.drop_left]
   have h7:ts=[]\/(∃ x,ts=[x])\/∃ x y,ts=[x,y]:=by
    match ts,hts with
    |[],_=>exact Or.inl rfl
    |[x],_=>exact Or.inr (Or.inl ⟨x,rfl⟩)
    |[x,y],_=>exact Or.inr (Or.inr ⟨x,y,rfl⟩)
    |x::y::z::w,h=>simp at h;omega
   rcases h7 with rfl|⟨x,rfl⟩|⟨x,y,rfl⟩
   ·simp only [List.length_nil] at hts
    refine ipp (e:=(i:Int)) (o2:=0) 0 (by omega) rfl (by decide) ?_;unfold three;refine gr ?_;exact ⟨l2.length,by simp at hk;omega,i+1,q+a.flat.length,l1++[a],l2,[(a.typ ty).1],_,_,_,_,_,_,_,_,_,_,rfl,by simp only [three,vS,U0,mQ],by simp [Ac],rfl,by simp [hl],by simp;omega,by simpa using e1,e2,h6,by omega⟩
   ·simp only [B7,List.length_nil] at hts
    refine ipp (e:=(i:Int)) (o2:=1) 1 (by omega) rfl (by decide) ?_;unfold three;refine gr ?_;exact ⟨l2.length,by simp at hk;omega,i+1,q+a.flat.length,l1++[a],l2,[x,(a.typ ty).1],_,_,_,_,_,_,_,_,_,_,rfl,by simp only [three,vS,U0,mQ],by simp [Ac],rfl,by simp [hl],by simp;omega,by simpa using e1,e2,h6,by omega⟩
   ·simp only [B7,List.length_nil] at hts
    refine ipp (e:=(i:Int)) (o2:=2) 2 (by omega) rfl (by decide) ?_;unfold three;refine gr ?_;exact ⟨l2.length,by simp at hk;omega,i+1,q+a.flat.length,l1++[a],l2,[x,y,(a.typ ty).1],_,_,_,_,_,_,_,_,_,_,rfl,by simp only [three,vS,U0,mQ],by simp [Ac],rfl,by simp [hl],by simp;omega,by simpa using e1,e2,h6,by omega⟩
 ·have h4:=y8 h3
  cases l2 with
  |cons a l2=>simp at hlen;omega
  |nil =>
  simp only [gm,List.append_nil] at e1 e2;have Zp:ts.length=l.length:=by simp at hlen;omega
  have htg:∀ x,x ∈ ts->good x:=by rw [<- e1];exact tU eg l Xc
  refine gr ?_;refine tb (o9 t.op 2&&W8 ty.length t.col) (fun h5=> ?_) (fun h5=> ?_)
  ·simp only [b5] at h5
   have h6:o9 t.op 1=false:=by have:=X2 h5.1;simp [j9];omega
   refine gr ?_;refine ⟨_,rfl,?_⟩;simp [b8,aI.typ,e2,h5,h6,Al,b6.G4,num,j9]
  have hcc:t.op≠2\/(0<=t.col/\t.col<ty.length):=by
   cases h6:o9 t.op 2 with
   |false=>exact Or.inl (mz h6)
   |true =>
    right;have h7:o9 t.op 1=false:=by have:=X2 h6;simp [j9];omega
    simp only [h6,Bool.true_and] at h5;simp only [xR,dn,h6,h7,if_true,b7,if_false,b5] at hok;exact ⟨qV hok.2.2,AR h5⟩
  have aJ7:=Uw (ty:=ty) (t:=t) (ts:=ts) htg (fun h=>by simpa [h] using h5)
   (fun h=>by have h8:=X2 h;have h9:=WI;unfold lU at h9;rw [h8] at h9;simp [j9,p4] at h9;omega)
   (fun h=>by have h8:=X2 h;have h9:=WI;unfold lU at h9;rw [h8] at h9;simp [j9,p4] at h9;omega)
  have hz:o9 (gm ty l).2 0=true:=by rw [e2];simp [j9]
  have xB:(aI.node t l).typ ty=if (Dd ty t (nth ts 0) (nth ts 1) (nth ts 2)).2 then ((Dd ty t (nth ts 0) (nth ts 1) (nth ts 2)).1,0) else (0,5):=by
   simp only [aI.typ,hz,if_true,e1,aJ7]
  unfold three
  repeat' (first|refine cl (al8 ty t _ _ _ hcc) ?_|refine gx ?_|fail)
  rw [xB];cases h6:(Dd ty t (nth ts 0) (nth ts 1) (nth ts 2)).2 with
  |false =>
   refine tb (true) (fun h7=> ?_) (fun h7=> ?_)
   ·refine gr ?_
    refine ⟨_,rfl,?_⟩;simp [b8,b6.G4,num,j9]
   ·cases h7
  |true =>
   refine tb (false) (fun h7=> ?_) (fun h7=> ?_)
   ·cases h7
   refine gr ?_;refine ⟨_,rfl,?_⟩;simp only [L8,List.length_nil,Nat.add_zero] at hqe;simp [b8,b6.G4,num,j9,hqe]
theorem Gg {e:List aE}{a:aI}(h:eO e=some a):e=a.flat/\a.wf/\a.dep<=16:=by
 unfold eO at h;split at h
 ·split at h
  ·rename_i b h4
   obtain ⟨e1,e2,e3⟩:=S5 16 e b [] h4;cases h;exact ⟨by simpa using e1,e2,e3⟩
  ·cases h
 ·cases h
set_option maxHeartbeats 2000000 in
theorem Ff (e:List aE)(ty:List Int)(he:e.length<=1000)(ht:ty.length<=100000):Pf A 153 [eH e,.d (ints ty)] (pair (F8 e ty)):=by
 refine Pf.run [eH e,.d (ints ty),.any,.any,.any,.any,.any,.any,.any,.any] rfl rfl rfl rfl ?_;refine gr ?_;refine tB (!eN e) ?_ (fun h1=> ?_) (fun h1=> ?_)
 ·repeat' (first|refine cl (al2 e he) ?_|refine gx ?_|refine fk (h1:=fun hw=> ?_) (h2:=fun hw=> ?_)|refine L7 (h1:=fun hw=> ?_) (h2:=fun hw=> ?_)|refine ⟨rfl,rfl,_,rfl,?_⟩|refine ⟨rfl,rfl⟩|fail)
  all_goals exact cc
 ·refine gr ?_
  refine ⟨_,rfl,?_⟩;rw [gZ] at h1;cases h2:eO e with
  |none=>simp [F8,h2,b8,pair,num,b6.G4]
  |some a=>simp [h2] at h1
 rw [gZ] at h1;cases h2:eO e with
 |none=>simp [h2] at h1
 |some a =>
 have h3:=Gg h2;refine gr ?_;refine Ex.J0 (fun k T H=>∃ (i:Nat) (v w x y z:b6),T=[eH e,.d (ints ty),v,w,x,y,z,.d (ints ty),.d (num ty.length),.d (num i)]/\H=[]/\i+k=ty.length/\aU ty=aU (ty.drop i)) (by rintro _ _ _ ⟨_,_,_,_,_,_,_,rfl,_⟩;rfl) ?_ (k:=ty.length) ⟨0,_,_,_,_,_,rfl,rfl,by simp,by simp⟩;rintro k _ _ ⟨i,v,w,x,y,z,rfl,rfl,hk,hi⟩;refine Ex.nT ?_;refine Ex.seq ?_;refine tb (C9 i ty.length) (fun h4=> ?_) (fun h4=> ?_)
 ·have h5:=y9 h4
  rw [A2 (by omega)] at hi;refine gr ?_;refine tb (!o9 (nth ty i) 1&& !o9 (nth ty i) 2) (fun h6=> ?_) (fun h6=> ?_)
  ·refine gr ?_
   refine ⟨_,rfl,?_⟩;have h7:aU ty=false:=by
    rw [hi];simp only [b5,j5] at h6;simp [aU,h6]
   simp [F8,h2,h7,b8,pair,num,b6.G4]
  ·refine gr ?_
   refine ⟨k - 1,by omega,i+1,_,_,_,_,_,rfl,rfl,by omega,?_⟩;rw [hi];simp only [aU,List.all_cons];cases h7:o9 (nth ty i) 1<;>cases h8:o9 (nth ty i) 2<;>simp_all
 ·have h5:=y8 h4
  rw [k9 (by omega)] at hi;have hg:aU ty=true:=by rw [hi];rfl
  have h6:=al3 ty hg e he e.length a 0 [] (by rw [h3.1];omega) (by rw [<- h3.1];simp) h3.2.1
  repeat' (first|refine cl (h6) ?_|refine gx ?_|fail)
  refine ⟨_,rfl,?_⟩;simp [F8,h2,hg,b8,pair,b6.G4]
end Go.Proofs.YtkmclibmmlgogaaGreat

