/-
  The reference's expressions: their types.; The reference's expressions: their types.
  (Put together by a small program out of several texts; blanks left out to keep the folder small.)
-/
import Derived.Test.YtkmclibmmlgogaaGreatD2
import Derived.Test.YtkmclibmmlgogaaGreatB6
set_option linter.unusedVariables false
set_option linter.unusedSimpArgs false
namespace Go.Proofs.YtkmclibmmlgogaaGreat
open Go.Abs Go.Abs.S
attribute [local irreducible] Rx Ry Rn Ex Pf
def opFit (op:Int)(k:Nat):Prop:=(op=3∨op=9∨op=13∨op=16)∧k=1∨op=18∧k=3∨4≤op∧op≤17∧op≠9∧op≠13∧op≠16∧k=2
theorem opFit_of {t:Trm}{k:Nat}(h:okT t=true)(hk:(arS t.op).toNat=k)(h1:eqB t.op 1=false)(h2:eqB t.op 2=false):opFit t.op k:=by
 simp only [okT,Bool.and_eq_true,Bool.not_eq_true'] at h
 have h3:=ltB_f h.1
 simp only [arS,h1,h2,Bool.or_self,Bool.false_eq_true,if_false,Bool.or_eq_true,Bool.and_eq_true] at h3 hk
 unfold opFit
 split at h3
 ·rename_i h4
  rw [if_pos h4] at hk
  simp [eqB_eq] at h4 hk
  left
  omega
 ·rename_i h4
  rw [if_neg h4] at hk
  simp [eqB_eq] at h4 h1 h2
  split at h3
  ·rename_i h5
   rw [if_pos h5] at hk
   simp [eqB_eq] at h5 hk
   right;left
   omega
  ·rename_i h5
   rw [if_neg h5] at hk
   simp [eqB_eq] at h5
   split at h3
   ·rename_i h6
    rw [if_pos h6] at hk
    simp [leB_eq] at h6 hk
    right;right
    omega
   ·omega
set_option maxHeartbeats 16000000 in
theorem pf169 (op:Int)(t:List Int)(h:opFit op t.length):Pf A 169 [.d (num op),.d (ints t)] (.d (num (typedS op t))):=by
 unfold opFit at h
 refine Pf.run [.d (num op),.d (ints t),.any,.any,.any,.any,.any,.any,.any] rfl rfl rfl rfl ?_
 repeat' (first|refine gx ?_|refine fk (h1:=fun hw=> ?_) (h2:=fun hw=> ?_)|refine fpk (h1:=fun hw=> ?_) (h2:=fun hw=> ?_)|refine Ex.condP ?_|refine Ex.condN ?_|refine Ex.cond rfl (fun ht=> ?_) (fun ht=> ?_)|refine Ex.test (Rn.text ?_)|refine Ex.test (Rn.draw ?_)|refine ⟨_,rfl,fun ht=> ?_,fun ht=> ?_⟩|refine ⟨_,rfl,?_⟩|fail)
 all_goals first|(simp [*,oneOrTuple,typedS,num];done)|(simp_all [oneOrTuple,typedS,num];done)|(simp_all [oneOrTuple,typedS,num,ltB_eq,leB_eq,eqB_eq,seB_eq];done)|(simp_all [oneOrTuple,typedS,num,ltB_eq,leB_eq,eqB_eq,seB_eq]<;>omega)
end Go.Proofs.YtkmclibmmlgogaaGreat
namespace Go.Proofs.YtkmclibmmlgogaaGreat
open Go.Abs Go.Abs.S
attribute [local irreducible] Rx Ry Rn Ex Pf
theorem nth_mid {α:Type} [Inhabited α] (l1:List α)(a:α)(l2:List α):nth (l1++a::l2) l1.length=a:=by
 rw [nth_eq (by simp)]
 simp
theorem typ_len {ty:List Int}:∀ {l:List Tr3},eqB (typL ty l).2 0=true→(typL ty l).1.length=l.length
 |[],_=>rfl
 |a::l,h=>by
  simp only [typL] at h ⊢
  split
  ·rename_i h1
   rw [if_pos h1] at h
   simp [typ_len (l:=l) h]
  ·rename_i h1
   rw [if_neg h1] at h
   exact absurd h h1
theorem flat_mem {a:Tr3}:∀ {l:List Tr3},a ∈ l→a.flat.length≤(flatL l).length
 |b::l,h=>by
  simp only [flatL,List.length_append]
  rcases List.mem_cons.1 h with rfl|h
  ·omega
  ·have:=flat_mem h;omega
theorem wf_mem {a:Tr3}:∀ {l:List Tr3},wfL l→a ∈ l→a.wf
 |b::l,hw,h=>by
  rcases List.mem_cons.1 h with rfl|h
  ·exact hw.1
  ·exact wf_mem hw.2 h
theorem dep_mem {a:Tr3}:∀ {l:List Tr3},a ∈ l→a.dep≤depL l
 |b::l,h=>by
  simp only [depL]
  rcases List.mem_cons.1 h with rfl|h
  ·omega
  ·have:=dep_mem h;omega
set_option maxHeartbeats 4000000 in
theorem pf145 (ty:List Int):∀ (n:Nat) (a:Tr3),a.flat.length≤n→n≤1000→a.wf→a.dep≤16→Pf A 145 [trms a.flat,.d (ints ty)] (.tuple [.d (num (a.typ ty).1),.d (num (a.typ ty).2)]):=by
 intro n
 induction n with
 |zero=>intro a h;have:=flat_pos a;omega
 |succ n ih =>
 rintro ⟨t,l⟩ hn hn2 hw hd
 simp only [Tr3.flat] at hn ⊢
 simp only [Tr3.dep] at hd
 have hle:(t::flatL l).length≤1000:=by omega
 have hpos:0<(t::flatL l).length:=by simp
 have h0:nth (t::flatL l) 0=t:=nth_zero _ _
 obtain ⟨hok,har,hwl⟩:=hw
 have hll:=flatL_len l
 have hl3:l.length≤3:=by have:=arS_small t.op;omega
 refine Pf.run [trms (t::flatL l),.d (ints ty),.any,.any,.any,.any,.any,.any,.any,.any,.any] rfl rfl rfl rfl ?_
 repeat' (first|refine gx ?_|fail)
 rw [h0]
 have hcol:eqB t.op 2=true→eqB t.op 1=false→0≤t.col:=fun h h' =>by
  simp only [okT,fieldsB,h,h',if_true,Bool.false_eq_true,if_false,Bool.and_eq_true] at hok
  exact leB_t hok.2.2
 have hl0:(eqB t.op 1||eqB t.op 2)=true→l=[]:=fun h=>by
  have:arS t.op=0:=by unfold arS;rw [h,if_pos rfl]
  rw [this] at har
  cases l with
  |nil=>rfl
  |cons a l=>simp at har
 refine tb (eqB t.op 1) (fun h1=> ?_) (fun h1=> ?_)
 ·repeat' (first|refine gx ?_|fail)
  refine ⟨_,rfl,?_⟩
  rw [hl0 (by simp [h1])]
  simp [oneOrTuple,Tr3.typ,typL,topT,h1,eqB_eq,num,AVal.asD,nth_zero]
 repeat' (first|refine gx ?_|fail)
 refine tb (eqB t.op 2) (fun h2=> ?_) (fun h2=> ?_)
 ·have hc:=hcol h2 h1
  have hll:=hl0 (by simp [h2])
  repeat' (first|refine gx ?_|fail)
  first|refine Ex.testB (leB ty.length t.col) (Rn.text ?_) (fun h3=> ?_) (fun h3=> ?_)|refine Ex.testB (leB ty.length t.col) (Rn.draw ?_) (fun h3=> ?_) (fun h3=> ?_)
  ·repeat' (first|refine gx ?_|refine fk (h1:=fun hw=> ?_) (h2:=fun hw=> ?_)|refine fpk (h1:=fun hw=> ?_) (h2:=fun hw=> ?_)|refine ⟨rfl,rfl,_,rfl,?_⟩|refine ⟨rfl,rfl⟩|fail)
   all_goals first|(simp [*,oneOrTuple,nth_zero];done)|(simp_all [oneOrTuple,nth_zero];done)|(simp_all [oneOrTuple,nth_zero,ltB_eq,leB_eq,eqB_eq,seB_eq];done)|(simp_all [oneOrTuple,nth_zero,ltB_eq,leB_eq,eqB_eq,seB_eq]<;>omega)
  ·repeat' (first|refine gx ?_|fail)
   refine ⟨_,rfl,?_⟩
   rw [hll]
   simp [oneOrTuple,Tr3.typ,typL,topT,h1,h2,h3,eqB_eq,num,AVal.asD]
  ·have h4:=leB_f h3
   repeat' (first|refine gx ?_|fail)
   rw [h0]
   repeat' (first|refine gx ?_|fail)
   refine ⟨_,rfl,?_⟩
   rw [hll]
   simp [oneOrTuple,Tr3.typ,typL,topT,h1,h2,h3,eqB_eq,num,AVal.asD]
 have hfit:=opFit_of hok har h1 h2
 repeat' (first|refine cl (pf168 t l hle hwl (by omega)) ?_|refine gx ?_|fail)
 refine Ex.loopS (fun k T H=>∃ (i:Nat) (l1 l2:List Tr3) (ts:List Int) (v2 v3 v7 v8 v9 v10:AVal),T=[trms (t::flatL l),.d (ints ty),v2,v3,ownL 1 (fun n=>[num n]) ts,segs l,.d (num i),v7,v8,v9,v10]∧H=[]∧i=l1.length∧k=l2.length∧l=l1++l2∧ts.length=l1.length∧(typL ty l).1=ts++(typL ty l2).1∧(typL ty l).2=(typL ty l2).2) (by rintro _ _ _ ⟨_,_,_,_,_,_,_,_,_,_,_,rfl,_⟩;rfl) ?_ (k:=l.length) ⟨0,[],l,[],_,_,_,_,_,_,rfl,rfl,rfl,rfl,rfl,rfl,rfl,rfl⟩
 rintro k _ _ ⟨i,l1,l2,ts,v2,v3,v7,v8,v9,v10,rfl,rfl,hil,hk,hl,hts,e1,e2⟩
 have hlen:l.length=l1.length+l2.length:=by rw [hl];simp
 refine Ex.nT ?_
 refine Ex.seq ?_
 unfold segs
 refine tb (ltB i l.length) (fun h3=> ?_) (fun h3=> ?_)
 ·have h4:=ltB_t h3
  cases l2 with
  |nil=>simp at hlen;omega
  |cons a l2 =>
  have hm:nth (l.map Tr3.flat) i=a.flat:=by
   have:=nth_mid (l1.map Tr3.flat) a.flat (l2.map Tr3.flat)
   rw [hl,hil]
   simpa using this
  have ha:a ∈ l:=by rw [hl];simp
  have hp:=ih a (by have:=flat_mem ha;simp at hn;omega) (by omega) (wf_mem hwl ha) (by have:=dep_mem ha;omega)
  have hlm:i<(l.map Tr3.flat).length:=by simp;omega
  repeat' (first|refine gx ?_|fail)
  rw [hm]
  simp only [typL] at e1 e2
  repeat' (first|refine cl (hp) ?_|refine gx ?_|fail)
  refine tb (!eqB (a.typ ty).2 0) (fun h5=> ?_) (fun h5=> ?_)
  ·simp only [Bool.not_eq_true'] at h5
   simp only [h5,Bool.false_eq_true,if_false] at e1 e2
   repeat' (first|refine gx ?_|fail)
   refine ⟨_,rfl,?_⟩
   simp [oneOrTuple,Tr3.typ,e2,h5,AVal.asD,num]
  ·simp only [Bool.not_eq_false'] at h5
   simp only [h5,if_true] at e1 e2
   repeat' (first|refine gx ?_|fail)
   exact ⟨l2.length,by simp at hk;omega,i+1,l1++[a],l2,ts++[(a.typ ty).1],_,_,_,_,_,_,rfl,rfl,by simp [hil],rfl,by simp [hl],by simp [hts],by simp [e1],e2⟩
 ·have h4:=ltB_f h3
  cases l2 with
  |cons a l2=>simp at hlen;omega
  |nil =>
  simp only [typL,List.append_nil] at e1 e2
  repeat' (first|refine gx ?_|fail)
  rw [h0]
  have hfit2:opFit t.op ts.length:=by rw [hts];simpa [hl] using hfit
  repeat' (first|refine cl (pf169 t.op ts hfit2) ?_|refine gx ?_|fail)
  refine tb (eqB (typedS t.op ts) 0) (fun h5=> ?_) (fun h5=> ?_)
  ·repeat' (first|refine gx ?_|fail)
   refine ⟨_,rfl,?_⟩
   simp [oneOrTuple,Tr3.typ,e1,e2,h1,h2,h5,topT,AVal.asD,num,eqB_eq]
  ·repeat' (first|refine gx ?_|fail)
   refine ⟨_,rfl,?_⟩
   simp [oneOrTuple,Tr3.typ,e1,e2,h1,h2,h5,topT,AVal.asD,num,eqB_eq]
def pair (p:Int×Int):AVal:= .tuple [.d (num p.1),.d (num p.2)]
set_option maxHeartbeats 2000000 in
theorem pf101 (e:List Trm)(ty:List Int)(he:e.length≤1000)(ht:ty.length≤100000):Pf A 101 [trms e,.d (ints ty)] (pair (typeS e ty)):=by
 refine Pf.run [trms e,.d (ints ty),.any,.any,.any] rfl rfl rfl rfl ?_
 repeat' (first|refine gx ?_|fail)
 first|refine Ex.testB (!validB e) (Rn.text ?_) (fun h1=> ?_) (fun h1=> ?_)|refine Ex.testB (!validB e) (Rn.draw ?_) (fun h1=> ?_) (fun h1=> ?_)
 ·repeat' (first|refine cl (pf144 e he) ?_|refine gx ?_|refine fk (h1:=fun hw=> ?_) (h2:=fun hw=> ?_)|refine fpk (h1:=fun hw=> ?_) (h2:=fun hw=> ?_)|refine ⟨rfl,rfl,_,rfl,?_⟩|refine ⟨rfl,rfl⟩|fail)
  all_goals first|(simp [*,oneOrTuple];done)|(simp_all [oneOrTuple];done)|(simp_all [oneOrTuple,ltB_eq,leB_eq,eqB_eq,seB_eq];done)|(simp_all [oneOrTuple,ltB_eq,leB_eq,eqB_eq,seB_eq]<;>omega)
 ·repeat' (first|refine gx ?_|fail)
  refine ⟨_,rfl,?_⟩
  rw [validB_iff] at h1
  cases h2:validE e with
  |none=>simp [typeS,h2,oneOrTuple,pair,num,AVal.asD]
  |some a=>simp [h2] at h1
 rw [validB_iff] at h1
 cases h2:validE e with
 |none=>simp [h2] at h1
 |some a =>
 have h3:e=a.flat∧a.wf∧a.dep≤16:=by
  unfold validE at h2
  split at h2
  ·split at h2
   ·rename_i b h4
    obtain ⟨e1,e2,e3⟩:=parse_sound 16 e b [] h4
    cases h2
    exact ⟨by simpa using e1,e2,e3⟩
   ·cases h2
  ·cases h2
 repeat' (first|refine gx ?_|fail)
 refine Ex.loopS (fun k T H=>∃ (i:Nat) (v w:AVal),T=[trms e,.d (ints ty),v,w,.d (num i)]∧H=[]∧i+k=ty.length∧goodTy ty=goodTy (ty.drop i)) (by rintro _ _ _ ⟨_,_,_,_,rfl,_⟩;rfl) ?_ (k:=ty.length) ⟨0,_,_,rfl,rfl,by simp,by simp⟩
 rintro k _ _ ⟨i,v,w,rfl,rfl,hk,hi⟩
 refine Ex.nT ?_
 refine Ex.seq ?_
 refine tb (ltB i ty.length) (fun h4=> ?_) (fun h4=> ?_)
 ·have h5:=ltB_t h4
  rw [drop_nth (by omega)] at hi
  repeat' (first|refine gx ?_|fail)
  refine tb (!eqB (nth ty i) 1&& !eqB (nth ty i) 2) (fun h6=> ?_) (fun h6=> ?_)
  ·repeat' (first|refine gx ?_|fail)
   refine ⟨_,rfl,?_⟩
   have h7:goodTy ty=false:=by
    rw [hi]
    simp only [Bool.and_eq_true,Bool.not_eq_true'] at h6
    simp [goodTy,h6]
   simp [typeS,h2,h7,oneOrTuple,pair,num,AVal.asD]
  ·repeat' (first|refine gx ?_|fail)
   refine ⟨k - 1,by omega,i+1,_,_,rfl,rfl,by omega,?_⟩
   rw [hi]
   simp only [goodTy,List.all_cons]
   cases h7:eqB (nth ty i) 1<;>cases h8:eqB (nth ty i) 2<;>simp_all
 ·have h5:=ltB_f h4
  rw [List.drop_of_length_le (by omega)] at hi
  have h6:=pf145 ty e.length a (by rw [h3.1];omega) he h3.2.1 h3.2.2
  rw [← h3.1] at h6
  repeat' (first|refine cl (h6) ?_|refine gx ?_|fail)
  refine ⟨_,rfl,?_⟩
  have hg:goodTy ty=true:=by rw [hi];rfl
  simp [typeS,h2,hg,oneOrTuple,pair,AVal.asD]
end Go.Proofs.YtkmclibmmlgogaaGreat
