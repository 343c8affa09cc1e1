/-
  The program's expressions.; The program's expressions: their types.; The program's expressions: their types.; The program's expressions: Type; names.; The program's names.
  (Put together by a small program out of several texts; blanks left out to keep the folder small.)
-/
import Derived.Test.YtkmclibmmlgogaaGreatD2
import Derived.Test.YtkmclibmmlgogaaGreatB6
import Derived.Test.YtkmclibmmlgogaaGreatD3
import Derived.Test.YtkmclibmmlgogaaGreatD0
set_option linter.unusedVariables false
set_option linter.unusedSimpArgs false
namespace Go.Proofs.YtkmclibmmlgogaaGreat
open Go.Abs Go.Abs.S
attribute [local irreducible] Rx Ry Rn Ex Pf
set_option maxHeartbeats 4000000 in
theorem pf188 (t:Trm):Pf A 188 [trm t] (.d (.bool (okT t))):=by
 refine Pf.run [trm t,.any,.any] rfl rfl rfl rfl ?_
 repeat' (first|refine cl (pf184 _) ?_|refine cl (pf189 _ _ _) ?_|refine gx ?_|refine fk (h1:=fun hw=> ?_) (h2:=fun hw=> ?_)|refine fpk (h1:=fun hw=> ?_) (h2:=fun hw=> ?_)|refine Ex.condP ?_|refine Ex.condN ?_|refine Ex.cond rfl (fun ht=> ?_) (fun ht=> ?_)|refine Ex.test (Rn.text ?_)|refine Ex.test (Rn.draw ?_)|refine ⟨_,rfl,fun ht=> ?_,fun ht=> ?_⟩|refine ⟨_,rfl,?_⟩|fail)
 all_goals simp only [oneOrTuple,okT,fieldsB,zeroV, *]
 all_goals simp [*,eqB_eq,seB_eq,Bool.and_comm,Bool.and_left_comm,Bool.and_assoc]
 done
def measS (e:List Trm)(p:Nat):Nat×Nat:=match parseT (e.length+1) (e.drop p) with
 |none=>(0,p)
 |some (a,r)=>(a.dep,e.length - r.length)
def measK (e:List Trm)(k m p:Nat):Option (Nat×Nat):=match kidsS (parseT e.length) k (e.drop p) with
 |none=>none
 |some (l,r)=>some (max m (depL l),e.length - r.length)
theorem dep_pos (a:Tr3):0<a.dep:=by
 cases a
 simp [Tr3.dep]
theorem measS_cases (e:List Trm)(p:Nat)(hp:0<p):(measS e p=(0,p)∧parseT e.length (e.drop p)=none)∨∃ (q:Nat) (a:Tr3),measS e p=(a.dep,q)∧q≤e.length∧p≤q∧parseT e.length (e.drop p)=some (a,e.drop q):=by
 have h0:parseT (e.length+1) (e.drop p)=parseT e.length (e.drop p):=parse_enough (by simp;omega) (by simp)
 simp only [measS,h0]
 rcases endS_cases e e.length p with ⟨h1,h2⟩|⟨q,h1,h3,h4,a,h2⟩
 ·exact Or.inl ⟨by rw [h2],h2⟩
 ·refine Or.inr ⟨q,a,?_,h3,h4,h2⟩
  rw [h2]
  simp only [List.length_drop]
  congr 1
  omega
theorem measK_step {e:List Trm}{k m p:Nat}(hp:0<p):measK e (k+1) m p=if (measS e p).1=0 then none else measK e k (max m (measS e p).1) (measS e p).2:=by
 rcases measS_cases e p hp with ⟨h1,h2⟩|⟨q,a,h1,_,_,h2⟩
 ·simp only [measK,kidsS,h2,h1,if_true]
 ·have:=dep_pos a
  rw [h1,if_neg (by simp only;omega)]
  simp only [measK,kidsS,h2]
  cases kidsS (parseT e.length) k (e.drop q) with
  |none=>rfl
  |some x =>
   obtain ⟨l,r⟩:=x
   simp only [depL,Option.some.injEq,Prod.mk.injEq,and_true]
   omega
theorem measS_step {e:List Trm}{p:Nat}(hp:p<e.length)(h:okT (nth e p)=true):measS e p=match measK e (arS (nth e p).op).toNat 0 (p+1) with
  |none=>(0,p)
  |some (d,q)=>(d+1,q):=by
 simp only [measS,measK]
 rw [drop_nth hp,parseT,h,if_pos rfl]
 cases kidsS (parseT e.length) (arS (nth e p).op).toNat (e.drop (p+1)) with
 |none=>rfl
 |some x =>
  obtain ⟨l,r⟩:=x
  simp [Tr3.dep]
theorem measS_none {e:List Trm}{p:Nat}(h:e.length≤p∨okT (nth e p)=false):measS e p=(0,p):=by
 simp only [measS]
 rcases h with h|h
 ·rw [List.drop_of_length_le h]
  rfl
 ·rcases Nat.lt_or_ge p e.length with hp|hp
  ·rw [drop_nth hp,parseT,h,if_neg (by simp)]
  ·rw [List.drop_of_length_le hp]
   rfl
set_option maxHeartbeats 4000000 in
theorem pf183 (e:List Trm)(he:e.length≤1000):∀ m p:Nat,e.length≤p+m→p≤2000→Pf A 183 [trms e,.d (num p)] (.tuple [.d (num (measS e p).1),.d (num (measS e p).2)]):=by
 intro m
 induction m with
 |zero =>
  intro p hm hp
  refine Pf.run [trms e,.d (num p),.any,.any,.any,.any,.any,.any,.any,.any] rfl rfl rfl rfl ?_
  repeat' (first|refine gx ?_|fail)
  first|refine Ex.testB (true) (Rn.text ?_) (fun h1=> ?_) (fun h1=> ?_)|refine Ex.testB (true) (Rn.draw ?_) (fun h1=> ?_) (fun h1=> ?_)
  ·repeat' (first|refine cl (pf188 _) ?_|refine gx ?_|refine fk (h1:=fun hw=> ?_) (h2:=fun hw=> ?_)|refine fpk (h1:=fun hw=> ?_) (h2:=fun hw=> ?_)|refine ⟨rfl,rfl,_,rfl,?_⟩|refine ⟨rfl,rfl⟩|fail)
   all_goals first|(simp [*,oneOrTuple];done)|(simp_all [oneOrTuple];done)|(simp_all [oneOrTuple,ltB_eq,leB_eq,eqB_eq,seB_eq];done)|(simp_all [oneOrTuple,ltB_eq,leB_eq,eqB_eq,seB_eq]<;>omega)
  ·repeat' (first|refine gx ?_|fail)
   exact ⟨_,rfl,by rw [measS_none (Or.inl (by omega))];rfl⟩
  ·cases h1
 |succ m ih =>
  intro p hm hp
  refine Pf.run [trms e,.d (num p),.any,.any,.any,.any,.any,.any,.any,.any] rfl rfl rfl rfl ?_
  repeat' (first|refine gx ?_|fail)
  first|refine Ex.testB (leB e.length p|| !okT (nth e p)) (Rn.text ?_) (fun h1=> ?_) (fun h1=> ?_)|refine Ex.testB (leB e.length p|| !okT (nth e p)) (Rn.draw ?_) (fun h1=> ?_) (fun h1=> ?_)
  ·repeat' (first|refine cl (pf188 _) ?_|refine gx ?_|refine fk (h1:=fun hw=> ?_) (h2:=fun hw=> ?_)|refine fpk (h1:=fun hw=> ?_) (h2:=fun hw=> ?_)|refine ⟨rfl,rfl,_,rfl,?_⟩|refine ⟨rfl,rfl⟩|fail)
   all_goals first|(simp [*,oneOrTuple];done)|(simp_all [oneOrTuple];done)|(simp_all [oneOrTuple,ltB_eq,leB_eq,eqB_eq,seB_eq];done)|(simp_all [oneOrTuple,ltB_eq,leB_eq,eqB_eq,seB_eq]<;>omega)
  ·repeat' (first|refine gx ?_|fail)
   refine ⟨_,rfl,?_⟩
   rw [measS_none]
   ·rfl
   ·simp only [Bool.or_eq_true,Bool.not_eq_true'] at h1
    rcases h1 with h|h
    ·have:=leB_t h;left;omega
    ·exact Or.inr h
  simp only [Bool.or_eq_false_iff,Bool.not_eq_false'] at h1
  have h2:=leB_f h1.1
  have h3:=arS_small (nth e p).op
  have h4:0≤arS (nth e p).op:=by
   have:=h1.2
   simp only [okT,Bool.and_eq_true,Bool.not_eq_true'] at this
   exact ltB_f this.1
  repeat' (first|refine clT (pf184 _) (h2:= ?_)|refine gx ?_|fail)
  refine Ex.loopS (fun k T H=>∃ (i q d:Nat) (v2 v3 v6 v7:AVal),T=[trms e,.d (num p),v2,v3,.d (num d),.d (num q),v6,v7,.d (num (arS (nth e p).op)),.d (num i)]∧H=[]∧(i:Int)+k=arS (nth e p).op∧p<q∧q≤e.length∧d≤2000∧measS e p=(match measK e k d q with|none=>(0,p)|some (d,q)=>(d+1,q))) (by rintro _ _ _ ⟨_,_,_,_,_,_,_,_,rfl,_⟩;rfl) ?_ (k:=(arS (nth e p).op).toNat) ⟨0,p+1,0,_,_,_,_,rfl,rfl,by omega,by omega,by omega,by omega,measS_step (by omega) h1.2⟩
  rintro k _ _ ⟨i,q,d,v2,v3,v6,v7,rfl,rfl,hk,hpq,hq,hd,hi⟩
  refine Ex.nT ?_
  refine Ex.seq ?_
  refine tb (ltB i (arS (nth e p).op)) (fun h5=> ?_) (fun h5=> ?_)
  ·have h6:=ltB_t h5
   obtain ⟨k,rfl⟩:∃ k',k=k' +1:=⟨k - 1,by omega⟩
   rw [measK_step (by omega)] at hi
   have h7:=ih q (by omega) (by omega)
   rcases measS_cases e q (by omega) with ⟨e1,_⟩|⟨q',a,e1,e2,e3,e4⟩
   ·rw [e1] at hi h7
    rw [if_pos rfl] at hi
    repeat' (first|refine cl (h7) ?_|refine gx ?_|fail)
    refine tb (true) (fun h8=> ?_) (fun h8=> ?_)
    ·repeat' (first|refine gx ?_|fail)
     exact ⟨_,rfl,by rw [hi];rfl⟩
    ·cases h8
   ·rw [e1] at hi h7
    have e5:=dep_pos a
    have e6:a.dep≤1000:=by
     have:=(parse_sound _ _ _ _ e4).2.2
     omega
    rw [if_neg (by simp only;omega)] at hi
    repeat' (first|refine cl (h7) ?_|refine gx ?_|fail)
    refine tb (false) (fun h8=> ?_) (fun h8=> ?_)
    ·cases h8
    repeat' (first|refine gx ?_|fail)
    have e7:(if (a.dep:Int)>(d:Int) then (a.dep:Int) else (d:Int))=((max d a.dep:Nat):Int):=by split<;>omega
    exact ⟨k,by omega,i+1,q',max d a.dep,_,_,_,_,by rw [← e7];rfl,rfl,by omega,by omega,e2,by omega,hi⟩
  ·have h6:=ltB_f h5
   obtain rfl:k=0:=by omega
   repeat' (first|refine gx ?_|fail)
   refine ⟨_,rfl,?_⟩
   have h8:measK e 0 d q=some (d,q):=by
    simp only [measK,kidsS,depL,List.length_drop,Option.some.injEq,Prod.mk.injEq]
    omega
   rw [hi,h8]
   rfl
set_option maxHeartbeats 2000000 in
theorem pf174 (e:List Trm)(he:e.length≤1000):Pf A 174 [trms e] (.d (.bool (validB e))):=by
 have h0:=pf183 e he e.length 0 (by omega) (by omega)
 refine Pf.run [trms e,.any,.any,.any] rfl rfl rfl rfl ?_
 repeat' (first|refine df ?_|refine gx ?_|fail)
 refine tb (ltB 64 e.length) (fun h1=> ?_) (fun h1=> ?_)
 ·repeat' (first|refine gx ?_|fail)
  refine ⟨_,rfl,?_⟩
  have:=ltB_t h1
  have:validB e=false:=by simp [validB,leB_eq];omega
  rw [this]
  rfl
 have h2:=ltB_f h1
 have h3:validB e=(ltB 0 (measS e 0).1&&leB (measS e 0).1 16&&eqB (measS e 0).2 e.length):=by
  rw [validB_iff]
  have h4:(validE e).isSome=(decide (1≤e.length)&&(match parseT 16 e with|some (_,[])=>true|_=>false)):=by
   unfold validE
   by_cases h5:1≤e.length
   ·have:(leB 1 e.length&&leB e.length 64)=true:=by simp [leB_eq];omega
    rw [this,if_pos rfl]
    simp only [h5,decide_true,Bool.true_and]
    split<;>simp_all
   ·have:(leB 1 e.length&&leB e.length 64)=false:=by simp [leB_eq];omega
    rw [this,if_neg (by simp)]
    simp [h5]
  rw [h4]
  simp only [measS,List.drop_zero]
  cases h5:parseT (e.length+1) e with
  |none =>
   have h6:parseT 16 e=none:=by
    cases h7:parseT 16 e with
    |none=>rfl
    |some x =>
     obtain ⟨a,r⟩:=x
     obtain ⟨g1,g2,g3⟩:=parse_sound 16 e a r h7
     have:=dep_flat a
     have hl:a.flat.length≤e.length:=by rw [g1];simp
     have:=parse_complete a (e.length+1) r g2 (by omega)
     rw [← g1,h5] at this
     cases this
   simp [h6,ltB_eq]
  |some x =>
   obtain ⟨a,r⟩:=x
   obtain ⟨g1,g2,g3⟩:=parse_sound _ e a r h5
   have hp:=dep_pos a
   have hf:=flat_pos a
   have hl:a.flat.length+r.length=e.length:=by rw [g1];simp
   by_cases h7:a.dep≤16
   ·have:=parse_complete a 16 r g2 h7
    rw [← g1] at this
    rw [this]
    cases r with
    |nil =>
     have e1:decide (1≤e.length)=true:=by simp at hl ⊢;omega
     have e2:ltB 0 a.dep=true:=by simp only [ltB_eq,decide_eq_true_eq];omega
     have e3:leB a.dep 16=true:=by simp only [leB_eq,decide_eq_true_eq];omega
     have e4:eqB ((e.length - ([]:List Trm).length:Nat):Int) e.length=true:=by simp [eqB_eq]
     simp only [e1,e2,e3,e4,Bool.and_self]
    |cons t r =>
     have e4:eqB ((e.length - (t::r).length:Nat):Int) e.length=false:=by simp only [eqB_eq,beq_eq_false_iff_ne];simp only [List.length_cons] at hl ⊢;omega
     simp only [e4,Bool.and_false]
   ·have h8:parseT 16 e=none:=by
     cases h9:parseT 16 e with
     |none=>rfl
     |some y =>
      obtain ⟨b,s⟩:=y
      obtain ⟨k1,k2,k3⟩:=parse_sound 16 e b s h9
      have hfb:=dep_flat b
      have hl2:b.flat.length≤e.length:=by rw [k1];simp
      have:=parse_complete b (e.length+1) s k2 (by omega)
      rw [← k1,h5] at this
      cases this
      exact absurd k3 h7
    rw [h8]
    simp [ltB_eq,leB_eq,eqB_eq]
    omega
 rw [h3]
 repeat' (first|refine cl (h0) ?_|refine gx ?_|refine fk (h1:=fun hw=> ?_) (h2:=fun hw=> ?_)|refine fpk (h1:=fun hw=> ?_) (h2:=fun hw=> ?_)|refine Ex.condP ?_|refine Ex.condN ?_|refine Ex.cond rfl (fun ht=> ?_) (fun ht=> ?_)|refine Ex.test (Rn.text ?_)|refine Ex.test (Rn.draw ?_)|refine ⟨_,rfl,fun ht=> ?_,fun ht=> ?_⟩|refine ⟨_,rfl,?_⟩|fail)
 all_goals first|(simp [*,oneOrTuple];done)|(simp_all [oneOrTuple];done)|(simp_all [oneOrTuple,ltB_eq,leB_eq,eqB_eq,seB_eq];done)|(simp_all [oneOrTuple,ltB_eq,leB_eq,eqB_eq,seB_eq]<;>omega)
end Go.Proofs.YtkmclibmmlgogaaGreat
namespace Go.Proofs.YtkmclibmmlgogaaGreat
open Go.Abs Go.Abs.S
attribute [local irreducible] Rx Ry Rn Ex Pf
set_option maxHeartbeats 16000000 in
theorem pf185 (ty:List Int)(t:Trm)(a b c:Int)(hc:t.op≠2∨(0≤t.col∧t.col<ty.length)):Pf A 185 [trm t,.agg [.d (num a),.d (num b),.d (num c)],.d (ints ty)] (.tuple [.d (num (resS ty t a b c).1),.d (.bool (resS ty t a b c).2)]):=by
 refine Pf.run [trm t,.agg [.d (num a),.d (num b),.d (num c)],.d (ints ty),.any,.any,.any,.any,.any,.any,.any,.any,.any,.any] rfl rfl rfl rfl ?_
 repeat' (first|refine gx ?_|refine fk (h1:=fun hw=> ?_) (h2:=fun hw=> ?_)|refine fpk (h1:=fun hw=> ?_) (h2:=fun hw=> ?_)|refine Ex.condP ?_|refine Ex.condN ?_|refine Ex.cond rfl (fun ht=> ?_) (fun ht=> ?_)|refine Ex.test (Rn.text ?_)|refine Ex.test (Rn.draw ?_)|refine ⟨_,rfl,fun ht=> ?_,fun ht=> ?_⟩|refine ⟨_,rfl,?_⟩|fail)
 all_goals simp only [oneOrTuple,resS, *,List.map_cons,List.map_nil,AVal.asD]
 all_goals simp [*,num]
end Go.Proofs.YtkmclibmmlgogaaGreat
namespace Go.Proofs.YtkmclibmmlgogaaGreat
open Go.Abs Go.Abs.S
attribute [local irreducible] Rx Ry Rn Ex Pf
def three (ts:List Int):List AVal:=[.d (num (nth ts 0)),.d (num (nth ts 1)),.d (num (nth ts 2))]
set_option maxHeartbeats 8000000 in
theorem pf175 (ty:List Int)(hty:goodTy ty=true)(e:List Trm)(he:e.length≤1000):∀ (n:Nat) (a:Tr3) (p:Nat) (r:List Trm),a.flat.length≤n→e.drop p=a.flat++r→a.wf →
  Pf A 175 [trms e,.d (num p),.d (ints ty)] (.tuple [.d (num (a.typ ty).1),.d (num (if eqB (a.typ ty).2 0 then ((p+a.flat.length:Nat):Int) else 0)),.d (num (a.typ ty).2)]):=by
 intro n
 induction n with
 |zero=>intro a p r h;have:=flat_pos a;omega
 |succ n ih =>
 rintro ⟨t,l⟩ p r hn hp hw
 simp only [Tr3.flat] at hn hp ⊢
 have hpe:(t::flatL l).length+r.length+p=e.length:=by
  have:=congrArg List.length hp
  have h2:p<e.length:=by
   rcases Nat.lt_or_ge p e.length with h|h
   ·exact h
   ·rw [List.drop_of_length_le h] at hp;cases hp
  simp at this ⊢
  omega
 have hpl:p<e.length:=by simp at hpe;omega
 have h0:nth e p=t∧e.drop (p+1)=flatL l++r:=by
  rw [drop_nth hpl] at hp
  simp only [List.cons_append,List.cons.injEq] at hp
  exact hp
 obtain ⟨h0,hp1⟩:=h0
 obtain ⟨hok,har,hwl⟩:=hw
 have hl3:l.length≤3:=by have:=arS_small t.op;omega
 have har0:arS t.op=l.length:=by
  simp only [okT,Bool.and_eq_true,Bool.not_eq_true'] at hok
  have:=ltB_f hok.1
  omega
 refine Pf.run [trms e,.d (num p),.d (ints ty),.any,.any,.any,.any,.any,.any,.any,.any,.any,.any,.any,.any,.any,.any] rfl rfl rfl rfl ?_
 repeat' (first|refine gx ?_|fail)
 rw [h0]
 repeat' (first|refine gx ?_|fail)
 refine clT (pf184 t.op) (h2:= ?_)
 rw [har0]
 repeat' (first|refine gx ?_|fail)
 refine Ex.loopS (fun k T H=>∃ (i q:Nat) (l1 l2:List Tr3) (ts:List Int) (v1 v3 v4 v5 v9 v10 v11 v12 v13 v14:AVal),T=[trms e,v1,.d (ints ty),v3,v4,v5,.ptr 0 0,.d (num q),.ptr 1 0,v9,v10,v11,v12,v13,v14,.d (num l.length),.d (num i)]∧H=[.cells (t.enc.map .d),.cells (three ts)]∧i=l1.length∧k=l2.length∧l=l1++l2∧ts.length=i∧(typL ty l).1=ts++(typL ty l2).1∧(typL ty l).2=(typL ty l2).2∧e.drop q=flatL l2++r∧q+(flatL l2).length=p+(t::flatL l).length) (by rintro _ _ _ ⟨_,_,_,_,_,_,_,_,_,_,_,_,_,_,_,_,rfl,_⟩;rfl) ?_ (k:=l.length) ⟨0,p+1,[],l,[],_,_,_,_,_,_,_,_,_,_,rfl,by simp only [three,nth_nil];rfl,rfl,rfl,rfl,rfl,rfl,rfl,hp1,by simp;omega⟩
 rintro k _ _ ⟨i,q,l1,l2,ts,v1,v3,v4,v5,v9,v10,v11,v12,v13,v14,rfl,rfl,hil,hk,hl,hts,e1,e2,hq,hqe⟩
 have hlen:l.length=l1.length+l2.length:=by rw [hl];simp
 refine Ex.nT ?_
 refine Ex.seq ?_
 refine tb (ltB i l.length) (fun h3=> ?_) (fun h3=> ?_)
 ·have h4:=ltB_t h3
  cases l2 with
  |nil=>simp at hlen;omega
  |cons a l2 =>
  have ha:a ∈ l:=by rw [hl];simp
  have hpr:=ih a q (flatL l2++r) (by have:=flat_mem ha;simp at hn;omega) (by rw [hq];simp [flatL]) (wf_mem hwl ha)
  simp only [typL] at e1 e2
  simp only [flatL,List.length_append] at hqe
  repeat' (first|refine cl (hpr) ?_|refine gx ?_|fail)
  refine tb (!eqB (a.typ ty).2 0) (fun h5=> ?_) (fun h5=> ?_)
  ·simp only [Bool.not_eq_true'] at h5
   simp only [h5,Bool.false_eq_true,if_false] at e1 e2
   repeat' (first|refine gx ?_|fail)
   refine ⟨_,rfl,?_⟩
   simp [oneOrTuple,Tr3.typ,e2,h5,AVal.asD,num]
  ·simp only [Bool.not_eq_false'] at h5
   simp only [h5,if_true] at e1 e2 ⊢
   repeat' (first|refine gx ?_|fail)
   have h6:e.drop (q+a.flat.length)=flatL l2++r:=by
    rw [← List.drop_drop,hq,flatL,List.append_assoc,List.drop_left]
   have h7:ts=[]∨(∃ x,ts=[x])∨∃ x y,ts=[x,y]:=by
    match ts,hts with
    |[],_=>exact Or.inl rfl
    |[x],_=>exact Or.inr (Or.inl ⟨x,rfl⟩)
    |[x,y],_=>exact Or.inr (Or.inr ⟨x,y,rfl⟩)
    |x::y::z::w,h=>simp at h;omega
   rcases h7 with rfl|⟨x,rfl⟩|⟨x,y,rfl⟩
   ·simp only [List.length_nil] at hts
    refine ipp (e:=(i:Int)) (o2:=0) 0 (by omega) rfl (by decide) ?_
    unfold three
    repeat' (first|refine gx ?_|fail)
    exact ⟨l2.length,by simp at hk;omega,i+1,q+a.flat.length,l1++[a],l2,[(a.typ ty).1],_,_,_,_,_,_,_,_,_,_,rfl,by simp only [three,nth_nil,nth_zero,nth_succ],by simp [hil],rfl,by simp [hl],by simp;omega,by simpa using e1,e2,h6,by omega⟩
   ·simp only [List.length_cons,List.length_nil] at hts
    refine ipp (e:=(i:Int)) (o2:=1) 1 (by omega) rfl (by decide) ?_
    unfold three
    repeat' (first|refine gx ?_|fail)
    exact ⟨l2.length,by simp at hk;omega,i+1,q+a.flat.length,l1++[a],l2,[x,(a.typ ty).1],_,_,_,_,_,_,_,_,_,_,rfl,by simp only [three,nth_nil,nth_zero,nth_succ],by simp [hil],rfl,by simp [hl],by simp;omega,by simpa using e1,e2,h6,by omega⟩
   ·simp only [List.length_cons,List.length_nil] at hts
    refine ipp (e:=(i:Int)) (o2:=2) 2 (by omega) rfl (by decide) ?_
    unfold three
    repeat' (first|refine gx ?_|fail)
    exact ⟨l2.length,by simp at hk;omega,i+1,q+a.flat.length,l1++[a],l2,[x,y,(a.typ ty).1],_,_,_,_,_,_,_,_,_,_,rfl,by simp only [three,nth_nil,nth_zero,nth_succ],by simp [hil],rfl,by simp [hl],by simp;omega,by simpa using e1,e2,h6,by omega⟩
 ·have h4:=ltB_f h3
  cases l2 with
  |cons a l2=>simp at hlen;omega
  |nil =>
  simp only [typL,List.append_nil] at e1 e2
  have hl1:ts.length=l.length:=by simp at hlen;omega
  have htg:∀ x,x ∈ ts→good x:=by rw [← e1];exact typL_good hty l hwl
  repeat' (first|refine gx ?_|fail)
  refine tb (eqB t.op 2&&leB ty.length t.col) (fun h5=> ?_) (fun h5=> ?_)
  ·simp only [Bool.and_eq_true] at h5
   have h6:eqB t.op 1=false:=by have:=eqB_t h5.1;simp [eqB_eq];omega
   repeat' (first|refine gx ?_|fail)
   refine ⟨_,rfl,?_⟩
   simp [oneOrTuple,Tr3.typ,e2,h5,h6,topT,AVal.asD,num,eqB_eq]
  have hcc:t.op≠2∨(0≤t.col∧t.col<ty.length):=by
   cases h6:eqB t.op 2 with
   |false=>exact Or.inl (eqB_f h6)
   |true =>
    right
    have h7:eqB t.op 1=false:=by have:=eqB_t h6;simp [eqB_eq];omega
    simp only [h6,Bool.true_and] at h5
    simp only [okT,fieldsB,h6,h7,if_true,Bool.false_eq_true,if_false,Bool.and_eq_true] at hok
    exact ⟨leB_t hok.2.2,leB_f h5⟩
  have htop:=top_res (ty:=ty) (t:=t) (ts:=ts) htg (fun h=>by simpa [h] using h5)
   (fun h=>by have h8:=eqB_t h;have h9:=har0;unfold arS at h9;rw [h8] at h9;simp [eqB_eq,leB_eq] at h9;omega)
   (fun h=>by have h8:=eqB_t h;have h9:=har0;unfold arS at h9;rw [h8] at h9;simp [eqB_eq,leB_eq] at h9;omega)
  have hz:eqB (typL ty l).2 0=true:=by rw [e2];simp [eqB_eq]
  have hty2:(Tr3.node t l).typ ty=if (resS ty t (nth ts 0) (nth ts 1) (nth ts 2)).2 then ((resS ty t (nth ts 0) (nth ts 1) (nth ts 2)).1,0) else (0,5):=by
   simp only [Tr3.typ,hz,if_true,e1,htop]
  unfold three
  repeat' (first|refine cl (pf185 ty t _ _ _ hcc) ?_|refine gx ?_|fail)
  rw [hty2]
  cases h6:(resS ty t (nth ts 0) (nth ts 1) (nth ts 2)).2 with
  |false =>
   refine tb (true) (fun h7=> ?_) (fun h7=> ?_)
   ·repeat' (first|refine gx ?_|fail)
    refine ⟨_,rfl,?_⟩
    simp [oneOrTuple,AVal.asD,num,eqB_eq]
   ·cases h7
  |true =>
   refine tb (false) (fun h7=> ?_) (fun h7=> ?_)
   ·cases h7
   repeat' (first|refine gx ?_|fail)
   refine ⟨_,rfl,?_⟩
   simp only [flatL,List.length_nil,Nat.add_zero] at hqe
   simp [oneOrTuple,AVal.asD,num,eqB_eq,hqe]
end Go.Proofs.YtkmclibmmlgogaaGreat
namespace Go.Proofs.YtkmclibmmlgogaaGreat
open Go.Abs Go.Abs.S
attribute [local irreducible] Rx Ry Rn Ex Pf
theorem validE_some {e:List Trm}{a:Tr3}(h:validE e=some a):e=a.flat∧a.wf∧a.dep≤16:=by
 unfold validE at h
 split at h
 ·split at h
  ·rename_i b h4
   obtain ⟨e1,e2,e3⟩:=parse_sound 16 e b [] h4
   cases h
   exact ⟨by simpa using e1,e2,e3⟩
  ·cases h
 ·cases h
set_option maxHeartbeats 2000000 in
theorem pf153 (e:List Trm)(ty:List Int)(he:e.length≤1000)(ht:ty.length≤100000):Pf A 153 [trms e,.d (ints ty)] (pair (typeS e ty)):=by
 refine Pf.run [trms e,.d (ints ty),.any,.any,.any,.any,.any,.any,.any,.any] rfl rfl rfl rfl ?_
 repeat' (first|refine gx ?_|fail)
 first|refine Ex.testB (!validB e) (Rn.text ?_) (fun h1=> ?_) (fun h1=> ?_)|refine Ex.testB (!validB e) (Rn.draw ?_) (fun h1=> ?_) (fun h1=> ?_)
 ·repeat' (first|refine cl (pf174 e he) ?_|refine gx ?_|refine fk (h1:=fun hw=> ?_) (h2:=fun hw=> ?_)|refine fpk (h1:=fun hw=> ?_) (h2:=fun hw=> ?_)|refine ⟨rfl,rfl,_,rfl,?_⟩|refine ⟨rfl,rfl⟩|fail)
  all_goals first|(simp [*,oneOrTuple];done)|(simp_all [oneOrTuple];done)|(simp_all [oneOrTuple,ltB_eq,leB_eq,eqB_eq,seB_eq];done)|(simp_all [oneOrTuple,ltB_eq,leB_eq,eqB_eq,seB_eq]<;>omega)
 ·repeat' (first|refine gx ?_|fail)
  refine ⟨_,rfl,?_⟩
  rw [validB_iff] at h1
  cases h2:validE e with
  |none=>simp [typeS,h2,oneOrTuple,pair,num,AVal.asD]
  |some a=>simp [h2] at h1
 rw [validB_iff] at h1
 cases h2:validE e with
 |none=>simp [h2] at h1
 |some a =>
 have h3:=validE_some h2
 repeat' (first|refine gx ?_|fail)
 refine Ex.loopS (fun k T H=>∃ (i:Nat) (v w x y z:AVal),T=[trms e,.d (ints ty),v,w,x,y,z,.d (ints ty),.d (num ty.length),.d (num i)]∧H=[]∧i+k=ty.length∧goodTy ty=goodTy (ty.drop i)) (by rintro _ _ _ ⟨_,_,_,_,_,_,_,rfl,_⟩;rfl) ?_ (k:=ty.length) ⟨0,_,_,_,_,_,rfl,rfl,by simp,by simp⟩
 rintro k _ _ ⟨i,v,w,x,y,z,rfl,rfl,hk,hi⟩
 refine Ex.nT ?_
 refine Ex.seq ?_
 refine tb (ltB i ty.length) (fun h4=> ?_) (fun h4=> ?_)
 ·have h5:=ltB_t h4
  rw [drop_nth (by omega)] at hi
  repeat' (first|refine gx ?_|fail)
  refine tb (!eqB (nth ty i) 1&& !eqB (nth ty i) 2) (fun h6=> ?_) (fun h6=> ?_)
  ·repeat' (first|refine gx ?_|fail)
   refine ⟨_,rfl,?_⟩
   have h7:goodTy ty=false:=by
    rw [hi]
    simp only [Bool.and_eq_true,Bool.not_eq_true'] at h6
    simp [goodTy,h6]
   simp [typeS,h2,h7,oneOrTuple,pair,num,AVal.asD]
  ·repeat' (first|refine gx ?_|fail)
   refine ⟨k - 1,by omega,i+1,_,_,_,_,_,rfl,rfl,by omega,?_⟩
   rw [hi]
   simp only [goodTy,List.all_cons]
   cases h7:eqB (nth ty i) 1<;>cases h8:eqB (nth ty i) 2<;>simp_all
 ·have h5:=ltB_f h4
  rw [List.drop_of_length_le (by omega)] at hi
  have hg:goodTy ty=true:=by rw [hi];rfl
  have h6:=pf175 ty hg e he e.length a 0 [] (by rw [h3.1];omega) (by rw [← h3.1];simp) h3.2.1
  repeat' (first|refine cl (h6) ?_|refine gx ?_|fail)
  refine ⟨_,rfl,?_⟩
  simp [typeS,h2,hg,oneOrTuple,pair,AVal.asD]
end Go.Proofs.YtkmclibmmlgogaaGreat
namespace Go.Proofs.YtkmclibmmlgogaaGreat
open Go.Abs Go.Abs.S
attribute [local irreducible] Rx Ry Rn Ex Pf
theorem pf180 (n:Int):Pf A 180 [.d (.int .u8 n)] (.d (.bool (letterB n))):=by
 refine Pf.run [.d (.int .u8 n),.any] rfl rfl rfl rfl ?_
 repeat' (first|refine gx ?_|refine fk (h1:=fun hw=> ?_) (h2:=fun hw=> ?_)|refine fpk (h1:=fun hw=> ?_) (h2:=fun hw=> ?_)|refine Ex.condP ?_|refine Ex.condN ?_|refine Ex.cond rfl (fun ht=> ?_) (fun ht=> ?_)|refine Ex.test (Rn.text ?_)|refine Ex.test (Rn.draw ?_)|refine ⟨_,rfl,fun ht=> ?_,fun ht=> ?_⟩|refine ⟨_,rfl,?_⟩|fail)
 all_goals simp_all [oneOrTuple,letterB]
theorem pf181 (n:Int):Pf A 181 [.d (.int .u8 n)] (.d (.bool (digitB n))):=by
 refine Pf.run [.d (.int .u8 n),.any] rfl rfl rfl rfl ?_
 repeat' (first|refine gx ?_|refine fk (h1:=fun hw=> ?_) (h2:=fun hw=> ?_)|refine fpk (h1:=fun hw=> ?_) (h2:=fun hw=> ?_)|refine Ex.condP ?_|refine Ex.condN ?_|refine Ex.cond rfl (fun ht=> ?_) (fun ht=> ?_)|refine Ex.test (Rn.text ?_)|refine Ex.test (Rn.draw ?_)|refine ⟨_,rfl,fun ht=> ?_,fun ht=> ?_⟩|refine ⟨_,rfl,?_⟩|fail)
 all_goals simp_all [oneOrTuple,digitB]
def nmL (first:Bool):Str→Nat
 |[]=>0
 |c::r=>if letterB c.toNat||(!first&&(digitB c.toNat||eqB c.toNat 95)) then nmL false r+1 else 0
theorem nmL_le:∀ (b:Bool) (s:Str),nmL b s≤s.length
 |_,[]=>by simp [nmL]
 |b,c::r=>by
  have:=nmL_le false r
  simp only [nmL]
  split<;>simp<;>omega
theorem nmL_all:∀ s:Str,(nmL false s==s.length)=s.all fun c=>inNameB c.toNat
 |[]=>rfl
 |c::r=>by
  have h1:=nmL_all r
  have h2:=nmL_le false r
  have hc:inNameB c.toNat=(letterB c.toNat||digitB c.toNat||eqB c.toNat 95):=rfl
  rw [List.all_cons,← h1,hc]
  simp only [nmL,Bool.not_false,Bool.true_and]
  cases letterB c.toNat<;>cases digitB c.toNat<;>cases eqB c.toNat 95<;>simp
theorem nmL_name (s:Str):isNameB s=(!seB s []&&leB s.length 16&&eqB (nmL true s) s.length):=by
 cases s with
 |nil=>simp [isNameB,seB_eq]
 |cons c r =>
  have h1:=nmL_all r
  have h3:seB (c::r) []=false:=by simp [seB_eq]
  have hc:inNameB c.toNat=(letterB c.toNat||digitB c.toNat||eqB c.toNat 95):=rfl
  simp only [isNameB,h3,Bool.not_false,Bool.true_and,nmL,Bool.not_true,Bool.false_and,Bool.or_false]
  rw [List.all_cons,← h1,hc]
  cases h:letterB c.toNat with
  |false=>simp [eqB_eq];intros;omega
  |true =>
   simp only [if_true,Bool.and_true,Bool.true_or,Bool.true_and]
   have e1:ltB r.length 16=leB (c::r).length 16:=by
    simp only [ltB_eq,leB_eq,List.length_cons]
    exact decide_eq_decide.2 (by omega)
   have e2:(nmL false r==r.length)=eqB (nmL false r+1:Nat) (c::r).length:=by
    simp only [eqB_eq,List.length_cons]
    rw [Bool.eq_iff_iff]
    simp only [beq_iff_eq]
    omega
   rw [e1,e2]
set_option maxHeartbeats 2000000 in
theorem pf170 (s:Str)(hs:s.length≤100000):Pf A 170 [.d (.str s)] (.d (num (nmL true s))):=by
 refine Pf.run [.d (.str s),.any,.any] rfl rfl rfl rfl ?_
 repeat' (first|refine gx ?_|fail)
 refine Ex.loopS (fun k T H=>∃ (i:Nat) (v:AVal),T=[.d (.str s),v,.d (num i)]∧H=[]∧i+k=s.length∧nmL true s=i+nmL (!ltB 0 i) (s.drop i)) (by rintro _ _ _ ⟨_,_,_,rfl,_⟩;rfl) ?_ (k:=s.length) ⟨0,_,rfl,rfl,by simp,by simp [ltB_eq]⟩
 rintro k _ _ ⟨i,v,rfl,rfl,hk,hi⟩
 refine Ex.nT ?_
 refine Ex.seq ?_
 first|refine Ex.testB (ltB i s.length&&(letterB (nth s i).toNat||(ltB 0 i&&(digitB (nth s i).toNat||eqB (nth s i).toNat 95)))) (Rn.text ?_) (fun h1=> ?_) (fun h1=> ?_)|refine Ex.testB (ltB i s.length&&(letterB (nth s i).toNat||(ltB 0 i&&(digitB (nth s i).toNat||eqB (nth s i).toNat 95)))) (Rn.draw ?_) (fun h1=> ?_) (fun h1=> ?_)
 ·repeat' (first|refine cl (pf180 _) ?_|refine cl (pf181 _) ?_|refine gx ?_|refine fk (h1:=fun hw=> ?_) (h2:=fun hw=> ?_)|refine fpk (h1:=fun hw=> ?_) (h2:=fun hw=> ?_)|refine ⟨rfl,rfl,_,rfl,?_⟩|refine ⟨rfl,rfl⟩|fail)
  all_goals first|(simp [*,oneOrTuple];done)|(simp_all [oneOrTuple];done)|(simp_all [oneOrTuple,ltB_eq,leB_eq,eqB_eq,seB_eq];done)|(simp_all [oneOrTuple,ltB_eq,leB_eq,eqB_eq,seB_eq]<;>omega)
 ·simp only [Bool.and_eq_true] at h1
  have h2:=ltB_t h1.1
  rw [drop_nth (by omega),nmL,Bool.not_not,h1.2,if_pos rfl] at hi
  repeat' (first|refine gx ?_|fail)
  refine ⟨k - 1,by omega,i+1,_,rfl,rfl,by omega,?_⟩
  have h3:ltB 0 ((i+1:Nat):Int)=true:=by simp only [ltB_eq,decide_eq_true_eq];omega
  rw [hi,h3,Bool.not_true]
  omega
 ·repeat' (first|refine gx ?_|fail)
  refine ⟨_,rfl,?_⟩
  have h3:nmL (!ltB 0 i) (s.drop i)=0:=by
   rcases Nat.lt_or_ge i s.length with h|h
   ·have h4:ltB i s.length=true:=by simp [ltB_eq];omega
    rw [h4,Bool.true_and] at h1
    rw [drop_nth h,nmL,Bool.not_not,h1]
    rfl
   ·rw [List.drop_of_length_le h];rfl
  rw [hi,h3]
  rfl
theorem le16 {s:Str}(h:leB s.length 16=true):s.length≤100000:=by have:=leB_t h;omega
theorem pf146 (s:Str):Pf A 146 [.d (.str s)] (.d (.bool (isNameB s))):=by
 rw [nmL_name]
 refine Pf.run [.d (.str s),.any] rfl rfl rfl rfl ?_
 repeat' (first|refine cl (pf170 s (le16 hw)) ?_|refine gx ?_|refine fk (h1:=fun hw=> ?_) (h2:=fun hw=> ?_)|refine fpk (h1:=fun hw=> ?_) (h2:=fun hw=> ?_)|refine Ex.condP ?_|refine Ex.condN ?_|refine Ex.cond rfl (fun ht=> ?_) (fun ht=> ?_)|refine Ex.test (Rn.text ?_)|refine Ex.test (Rn.draw ?_)|refine ⟨_,rfl,fun ht=> ?_,fun ht=> ?_⟩|refine ⟨_,rfl,?_⟩|fail)
 all_goals first|(simp [*,oneOrTuple];done)|(simp_all [oneOrTuple];done)|(simp_all [oneOrTuple,ltB_eq,leB_eq,eqB_eq,seB_eq];done)|(simp_all [oneOrTuple,ltB_eq,leB_eq,eqB_eq,seB_eq]<;>omega)
end Go.Proofs.YtkmclibmmlgogaaGreat
