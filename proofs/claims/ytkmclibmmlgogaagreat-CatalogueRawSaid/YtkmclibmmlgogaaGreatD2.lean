/-
  The reference's expressions.; The reference's expressions: their ends.
  (Put together by a small program out of several texts; blanks left out to keep the folder small.)
-/
import Derived.Test.YtkmclibmmlgogaaGreatD0
import Derived.Test.YtkmclibmmlgogaaGreatB6
set_option linter.unusedVariables false
set_option linter.unusedSimpArgs false
namespace Go.Proofs.YtkmclibmmlgogaaGreat
open Go.Abs Go.Abs.S
attribute [local irreducible] Rx Ry Rn Ex Pf
def val (k n:Int)(s:Str):AVal:= .agg [.d (num k),.d (num n),.d (.str s)]
def trm (t:Trm):AVal:= .agg (t.enc.map .d)
set_option maxHeartbeats 2000000 in
theorem pf187 (k n:Int)(s:Str):Pf A 187 [val k n s] (.d (.bool (validV k n s))):=by
 refine Pf.run [val k n s,.any,.any,.any] rfl rfl rfl rfl ?_
 repeat' (first|refine gx ?_|refine fk (h1:=fun hw=> ?_) (h2:=fun hw=> ?_)|refine fpk (h1:=fun hw=> ?_) (h2:=fun hw=> ?_)|refine Ex.condP ?_|refine Ex.condN ?_|refine Ex.cond rfl (fun ht=> ?_) (fun ht=> ?_)|refine Ex.test (Rn.text ?_)|refine Ex.test (Rn.draw ?_)|refine ⟨_,rfl,fun ht=> ?_,fun ht=> ?_⟩|refine ⟨_,rfl,?_⟩|fail)
 all_goals first|(simp [*,oneOrTuple,validV];done)|(simp_all [oneOrTuple,validV];done)|(simp_all [oneOrTuple,validV,ltB_eq,leB_eq,eqB_eq,seB_eq];done)|(simp_all [oneOrTuple,validV,ltB_eq,leB_eq,eqB_eq,seB_eq]<;>omega)
set_option maxHeartbeats 2000000 in
theorem pf189 (k n:Int)(s:Str):Pf A 189 [val k n s] (.d (.bool (validV k n s))):=by
 refine Pf.run [val k n s,.any,.any,.any] rfl rfl rfl rfl ?_
 repeat' (first|refine gx ?_|refine fk (h1:=fun hw=> ?_) (h2:=fun hw=> ?_)|refine fpk (h1:=fun hw=> ?_) (h2:=fun hw=> ?_)|refine Ex.condP ?_|refine Ex.condN ?_|refine Ex.cond rfl (fun ht=> ?_) (fun ht=> ?_)|refine Ex.test (Rn.text ?_)|refine Ex.test (Rn.draw ?_)|refine ⟨_,rfl,fun ht=> ?_,fun ht=> ?_⟩|refine ⟨_,rfl,?_⟩|fail)
 all_goals first|(simp [*,oneOrTuple,validV];done)|(simp_all [oneOrTuple,validV];done)|(simp_all [oneOrTuple,validV,ltB_eq,leB_eq,eqB_eq,seB_eq];done)|(simp_all [oneOrTuple,validV,ltB_eq,leB_eq,eqB_eq,seB_eq]<;>omega)
set_option maxHeartbeats 2000000 in
theorem pf179 (t:Trm):Pf A 179 [trm t] (.d (.bool (fieldsB t))):=by
 refine Pf.run [trm t,.any,.any,.any] rfl rfl rfl rfl ?_
 repeat' (first|refine cl (pf187 _ _ _) ?_|refine gx ?_|refine fk (h1:=fun hw=> ?_) (h2:=fun hw=> ?_)|refine fpk (h1:=fun hw=> ?_) (h2:=fun hw=> ?_)|refine Ex.condP ?_|refine Ex.condN ?_|refine Ex.cond rfl (fun ht=> ?_) (fun ht=> ?_)|refine Ex.test (Rn.text ?_)|refine Ex.test (Rn.draw ?_)|refine ⟨_,rfl,fun ht=> ?_,fun ht=> ?_⟩|refine ⟨_,rfl,?_⟩|fail)
 all_goals first|(simp [*,oneOrTuple,fieldsB,zeroV];done)|(simp_all [oneOrTuple,fieldsB,zeroV];done)|(simp_all [oneOrTuple,fieldsB,zeroV,ltB_eq,leB_eq,eqB_eq,seB_eq];done)|(simp_all [oneOrTuple,fieldsB,zeroV,ltB_eq,leB_eq,eqB_eq,seB_eq]<;>omega)
set_option maxHeartbeats 2000000 in
theorem pf141 (op:Int):Pf A 141 [.d (num op)] (.d (num (arS op))):=by
 refine Pf.run [.d (num op),.any,.any,.any,.any] rfl rfl rfl rfl ?_
 repeat' (first|refine gx ?_|refine fk (h1:=fun hw=> ?_) (h2:=fun hw=> ?_)|refine fpk (h1:=fun hw=> ?_) (h2:=fun hw=> ?_)|refine Ex.condP ?_|refine Ex.condN ?_|refine Ex.cond rfl (fun ht=> ?_) (fun ht=> ?_)|refine Ex.test (Rn.text ?_)|refine Ex.test (Rn.draw ?_)|refine ⟨_,rfl,fun ht=> ?_,fun ht=> ?_⟩|refine ⟨_,rfl,?_⟩|fail)
 all_goals first|(simp [*,oneOrTuple,arS,num];done)|(simp_all [oneOrTuple,arS,num];done)|(simp_all [oneOrTuple,arS,num,ltB_eq,leB_eq,eqB_eq,seB_eq];done)|(simp_all [oneOrTuple,arS,num,ltB_eq,leB_eq,eqB_eq,seB_eq]<;>omega)
set_option maxHeartbeats 8000000 in
theorem pf184 (op:Int):Pf A 184 [.d (num op)] (.d (num (arS op))):=by
 refine Pf.run [.d (num op),.any,.any,.any,.any,.any] rfl rfl rfl rfl ?_
 repeat' (first|refine gx ?_|refine fk (h1:=fun hw=> ?_) (h2:=fun hw=> ?_)|refine fpk (h1:=fun hw=> ?_) (h2:=fun hw=> ?_)|refine Ex.condP ?_|refine Ex.condN ?_|refine Ex.cond rfl (fun ht=> ?_) (fun ht=> ?_)|refine Ex.test (Rn.text ?_)|refine Ex.test (Rn.draw ?_)|refine ⟨_,rfl,fun ht=> ?_,fun ht=> ?_⟩|refine ⟨_,rfl,?_⟩|fail)
 all_goals first|(simp [*,oneOrTuple,arS,num];done)|(simp_all [oneOrTuple,arS,num];done)|(simp_all [oneOrTuple,arS,num,ltB_eq,leB_eq,eqB_eq,seB_eq];done)|(simp_all [oneOrTuple,arS,num,ltB_eq,leB_eq,eqB_eq,seB_eq]<;>omega)
end Go.Proofs.YtkmclibmmlgogaaGreat
namespace Go.Proofs.YtkmclibmmlgogaaGreat
open Go.Abs Go.Abs.S
attribute [local irreducible] Rx Ry Rn Ex Pf
def trms (e:List Trm):AVal:= .d (encL Trm.enc e)
def endS (e:List Trm)(d p:Nat):Int:=match parseT d (e.drop p) with
 |none=> -1
 |some (_,r)=>((e.length - r.length:Nat):Int)
def endK (e:List Trm)(d k p:Nat):Int:=match kidsS (parseT d) k (e.drop p) with
 |none=> -1
 |some (_,r)=>((e.length - r.length:Nat):Int)
theorem endS_step {e:List Trm}{d p:Nat}(hp:p<e.length)(h:okT (nth e p)=true):endS e (d+1) p=endK e d (arS (nth e p).op).toNat (p+1):=by
 simp only [endS,endK]
 rw [drop_nth hp,parseT,h,if_pos rfl]
 cases kidsS (parseT d) (arS (nth e p).op).toNat (e.drop (p+1)) with
 |none=>rfl
 |some x=>rfl
theorem endS_none {e:List Trm}{d p:Nat}(h:e.length≤p∨d=0∨okT (nth e p)=false):endS e d p= -1:=by
 simp only [endS]
 rcases h with h|h|h
 ·rw [List.drop_of_length_le h]
  cases d<;>rfl
 ·subst h;rfl
 ·rcases Nat.lt_or_ge p e.length with hp|hp
  ·rw [drop_nth hp]
   cases d with
   |zero=>rfl
   |succ d=>rw [parseT,h,if_neg (by simp)]
  ·rw [List.drop_of_length_le hp]
   cases d<;>rfl
theorem endS_cases (e:List Trm)(d p:Nat):(endS e d p= -1∧parseT d (e.drop p)=none)∨∃ q:Nat,endS e d p=q∧q≤e.length∧p≤q∧∃ a,parseT d (e.drop p)=some (a,e.drop q):=by
 simp only [endS]
 cases h:parseT d (e.drop p) with
 |none=>exact Or.inl ⟨rfl,rfl⟩
 |some x =>
  obtain ⟨a,r⟩:=x
  right
  obtain ⟨h1,_,_⟩:=parse_sound d _ a r h
  have h2:r.length≤e.length - p:=by
   have:=congrArg List.length h1
   simp at this
   omega
  have h4:p≤e.length:=by
   rcases Nat.lt_or_ge e.length p with hp|hp
   ·rw [List.drop_of_length_le (by omega)] at h1
    have:=congrArg List.length h1
    have:=flat_pos a
    simp at *
    omega
   ·exact hp
  refine ⟨e.length - r.length,rfl,by omega,by omega,a,?_⟩
  have h3:e.drop (e.length - r.length)=r:=by
   have h5:e=(e.take p++a.flat)++r:=by rw [List.append_assoc,← h1,List.take_append_drop]
   conv=>lhs;rw [h5]
   rw [List.drop_append_of_le_length (by simp;omega),List.drop_of_length_le (by simp;omega)]
   rfl
  rw [h3]
theorem endK_step {e:List Trm}{d k p:Nat}:endK e d (k+1) p=if ltB (endS e d p) 0 then -1 else endK e d k (endS e d p).toNat:=by
 rcases endS_cases e d p with ⟨h1,h2⟩|⟨q,h1,_,_,a,h2⟩
 ·rw [h1,if_pos (by simp [ltB_eq])]
  simp only [endK,kidsS,h2]
 ·rw [h1,if_neg (by simp [ltB_eq])]
  simp only [endK,kidsS,h2,Int.toNat_natCast]
  cases kidsS (parseT d) k (e.drop q) with
  |none=>rfl
  |some x=>rfl
set_option maxHeartbeats 2000000 in
theorem pf167 (e:List Trm)(he:e.length≤1000):∀ d p:Nat,d≤100→p≤2000→Pf A 167 [trms e,.d (num p),.d (num d)] (.d (num (endS e d p))):=by
 intro d
 induction d with
 |zero =>
  intro p _ hp
  refine Pf.run [trms e,.d (num p),.d (num (0:Nat)),.any,.any,.any] rfl rfl rfl rfl ?_
  repeat' (first|refine gx ?_|fail)
  first|refine Ex.testB (true) (Rn.text ?_) (fun h1=> ?_) (fun h1=> ?_)|refine Ex.testB (true) (Rn.draw ?_) (fun h1=> ?_) (fun h1=> ?_)
  ·repeat' (first|refine cl (pf141 _) ?_|refine cl (pf179 _) ?_|refine gx ?_|refine fk (h1:=fun hw=> ?_) (h2:=fun hw=> ?_)|refine fpk (h1:=fun hw=> ?_) (h2:=fun hw=> ?_)|refine ⟨rfl,rfl,_,rfl,?_⟩|refine ⟨rfl,rfl⟩|fail)
   all_goals first|(simp [*,oneOrTuple];done)|(simp_all [oneOrTuple];done)|(simp_all [oneOrTuple,ltB_eq,leB_eq,eqB_eq,seB_eq];done)|(simp_all [oneOrTuple,ltB_eq,leB_eq,eqB_eq,seB_eq]<;>omega)
  ·repeat' (first|refine gx ?_|fail)
   exact ⟨_,rfl,by rw [endS_none (Or.inr (Or.inl rfl))];rfl⟩
  ·cases h1
 |succ d ih =>
  intro p hd hp
  refine Pf.run [trms e,.d (num p),.d (num (d+1:Nat)),.any,.any,.any] rfl rfl rfl rfl ?_
  repeat' (first|refine gx ?_|fail)
  first|refine Ex.testB (leB e.length p|| !okT (nth e p)) (Rn.text ?_) (fun h1=> ?_) (fun h1=> ?_)|refine Ex.testB (leB e.length p|| !okT (nth e p)) (Rn.draw ?_) (fun h1=> ?_) (fun h1=> ?_)
  ·repeat' (first|refine cl (pf141 _) ?_|refine cl (pf179 _) ?_|refine gx ?_|refine fk (h1:=fun hw=> ?_) (h2:=fun hw=> ?_)|refine fpk (h1:=fun hw=> ?_) (h2:=fun hw=> ?_)|refine ⟨rfl,rfl,_,rfl,?_⟩|refine ⟨rfl,rfl⟩|fail)
   all_goals first|(simp [*,oneOrTuple,okT];done)|(simp_all [oneOrTuple,okT];done)|(simp_all [oneOrTuple,okT,ltB_eq,leB_eq,eqB_eq,seB_eq];done)|(simp_all [oneOrTuple,okT,ltB_eq,leB_eq,eqB_eq,seB_eq]<;>omega)
  ·repeat' (first|refine gx ?_|fail)
   refine ⟨_,rfl,?_⟩
   rw [endS_none]
   ·rfl
   ·simp only [Bool.or_eq_true,Bool.not_eq_true'] at h1
    rcases h1 with h|h
    ·have:=leB_t h;left;omega
    ·exact Or.inr (Or.inr h)
  simp only [Bool.or_eq_false_iff,Bool.not_eq_false'] at h1
  have h2:=leB_f h1.1
  have h3:=arS_small (nth e p).op
  have h4:0≤arS (nth e p).op:=by
   have:=h1.2
   simp only [okT,Bool.and_eq_true,Bool.not_eq_true'] at this
   exact ltB_f this.1
  repeat' (first|refine cl (pf141 _) ?_|refine gx ?_|fail)
  refine Ex.loopS (fun k T H=>∃ (i q:Nat) (v:AVal),T=[trms e,.d (num q),.d (num (d+1:Nat)),v,.d (num (arS (nth e p).op)),.d (num i)]∧H=[]∧(i:Int)+k=arS (nth e p).op∧q≤e.length∧endS e (d+1) p=endK e d k q) (by rintro _ _ _ ⟨_,_,_,_,rfl,_⟩;rfl) ?_ (k:=(arS (nth e p).op).toNat) ⟨0,p+1,_,rfl,rfl,by omega,by omega,endS_step (by omega) h1.2⟩
  rintro k _ _ ⟨i,q,v,rfl,rfl,hk,hq,hi⟩
  refine Ex.nT ?_
  refine Ex.seq ?_
  refine tb (ltB i (arS (nth e p).op)) (fun h5=> ?_) (fun h5=> ?_)
  ·have h6:=ltB_t h5
   obtain ⟨k,rfl⟩:∃ k',k=k' +1:=⟨k - 1,by omega⟩
   repeat' (first|refine gx ?_|fail)
   refine cl (ih q (by omega) (by omega)) ?_ (ha:=by rw [show (d:Int)=((d+1:Nat):Int) - 1 by omega];rfl)
   rw [endK_step] at hi
   rcases endS_cases e d q with ⟨e1,_⟩|⟨q',e1,e2,_,_,_⟩
   ·rw [e1] at hi ⊢
    have e3:ltB (-1) 0=true:=by simp [ltB_eq]
    rw [e3,if_pos rfl] at hi
    repeat' (first|refine gx ?_|fail)
    refine tb (true) (fun h7=> ?_) (fun h7=> ?_)
    ·repeat' (first|refine gx ?_|fail)
     exact ⟨_,rfl,by rw [hi];rfl⟩
    ·cases h7
   ·rw [e1] at hi ⊢
    have e3:ltB (q' :Int) 0=false:=by simp [ltB_eq]
    rw [e3,if_neg (by simp)] at hi
    repeat' (first|refine gx ?_|fail)
    refine tb (false) (fun h7=> ?_) (fun h7=> ?_)
    ·cases h7
    repeat' (first|refine gx ?_|fail)
    exact ⟨k,by omega,i+1,q',_,rfl,rfl,by omega,by omega,hi⟩
  ·have h6:=ltB_f h5
   obtain rfl:k=0:=by omega
   repeat' (first|refine gx ?_|fail)
   refine ⟨_,rfl,?_⟩
   have h8:endK e d 0 q=q:=by simp only [endK,kidsS,List.length_drop];omega
   rw [hi,h8]
   rfl
def validB (e:List Trm):Bool:=leB 1 e.length&&leB e.length 64&&eqB (endS e 16 0) e.length
theorem pf144 (e:List Trm)(he:e.length≤1000):Pf A 144 [trms e] (.d (.bool (validB e))):=by
 refine Pf.run [trms e,.any] rfl rfl rfl rfl ?_
 repeat' (first|refine cl (pf167 e he 16 0 (by omega) (by omega)) ?_|refine gx ?_|refine fk (h1:=fun hw=> ?_) (h2:=fun hw=> ?_)|refine fpk (h1:=fun hw=> ?_) (h2:=fun hw=> ?_)|refine Ex.condP ?_|refine Ex.condN ?_|refine Ex.cond rfl (fun ht=> ?_) (fun ht=> ?_)|refine Ex.test (Rn.text ?_)|refine Ex.test (Rn.draw ?_)|refine ⟨_,rfl,fun ht=> ?_,fun ht=> ?_⟩|refine ⟨_,rfl,?_⟩|fail)
 all_goals first|(simp [*,oneOrTuple,validB];done)|(simp_all [oneOrTuple,validB];done)|(simp_all [oneOrTuple,validB,ltB_eq,leB_eq,eqB_eq,seB_eq];done)|(simp_all [oneOrTuple,validB,ltB_eq,leB_eq,eqB_eq,seB_eq]<;>omega)
theorem validB_iff (e:List Trm):validB e=(validE e).isSome:=by
 unfold validB validE
 cases h:(leB 1 e.length&&leB e.length 64) with
 |false=>rfl
 |true =>
  simp only [if_true,Bool.true_and]
  simp only [Bool.and_eq_true] at h
  have hl:=leB_t h.1
  simp only [endS,List.drop_zero]
  cases h1:parseT 16 e with
  |none =>
   simp only [Option.isSome_none,eqB_eq]
   simp
  |some x =>
   obtain ⟨a,r⟩:=x
   obtain ⟨h2,_,_⟩:=parse_sound 16 e a r h1
   have h3:a.flat.length+r.length=e.length:=by rw [h2];simp
   have h4:=flat_pos a
   cases r with
   |nil=>simp [eqB_eq]
   |cons t r=>simp [eqB_eq] at *;omega
def segs (l:List Tr3):AVal:= .d (encL (fun x=>[encL Trm.enc x]) (l.map Tr3.flat))
theorem drop_flatL {e:List Trm}{p:Nat}{a:Tr3}{l:List Tr3}(h:e.drop p=flatL (a::l)):e.drop (p+a.flat.length)=flatL l∧(e.take (p+a.flat.length)).drop p=a.flat:=by
 constructor
 ·rw [← List.drop_drop,h,flatL,List.drop_left]
 ·rw [List.drop_take,h,Nat.add_sub_cancel_left,flatL,List.take_left]
set_option maxHeartbeats 2000000 in
theorem pf168 (t:Trm)(l:List Tr3)(he:(t::flatL l).length≤1000)(hw:wfL l)(hd:depL l≤16):Pf A 168 [trms (t::flatL l)] (segs l):=by
 refine Pf.run [trms (t::flatL l),.any,.any,.any,.any] rfl rfl rfl rfl ?_
 repeat' (first|refine gx ?_|fail)
 refine Ex.loopS (fun k T H=>∃ (p:Nat) (l1 l2:List Tr3) (v w:AVal),T=[trms (t::flatL l),v,ownL 1 (fun x=>[encL Trm.enc x]) (l1.map Tr3.flat),.d (num p),w]∧H=[]∧k=l2.length∧l=l1++l2∧p≤(t::flatL l).length∧(t::flatL l).drop p=flatL l2∧wfL l2∧depL l2≤16) (by rintro _ _ _ ⟨_,_,_,_,_,_,rfl,_⟩;rfl) ?_ (k:=l.length) ⟨1,[],l,_,_,rfl,rfl,rfl,rfl,by simp,rfl,hw,hd⟩
 rintro k _ _ ⟨p,l1,l2,v,w,rfl,rfl,hk,hl,hp,hp2,hw2,hd2⟩
 have hlen:=flatL_len l
 have hl1:l1.length≤1000:=by
  have:=congrArg List.length hl
  simp at this he
  omega
 have hpl:(flatL l2).length+p=(t::flatL l).length:=by rw [← hp2];simp at hp ⊢;omega
 refine Ex.nT ?_
 refine Ex.seq ?_
 refine tb (ltB p (t::flatL l).length) (fun h1=> ?_) (fun h1=> ?_)
 ·have h2:=ltB_t h1
  cases l2 with
  |nil=>simp [flatL] at hpl h2;omega
  |cons a l2 =>
  have h3:=drop_flatL hp2
  have h4:endS (t::flatL l) 16 p=((p+a.flat.length:Nat):Int):=by
   simp only [depL] at hd2
   simp only [endS,hp2,flatL]
   rw [parse_complete a 16 (flatL l2) hw2.1 (by omega)]
   simp only [flatL,List.length_append] at hpl
   simp only
   omega
  have h5:=pf167 (t::flatL l) he 16 p (by omega) (by omega)
  rw [h4] at h5
  simp only [flatL,List.length_append] at hpl
  repeat' (first|refine cl (h5) ?_|refine gx ?_|fail)
  refine ⟨l2.length,by simp at hk;omega,p+a.flat.length,l1++[a],l2,.any,.d (num (p+a.flat.length:Nat)),by rw [h3.2];simp [ownL],rfl,rfl,by simp [hl],by omega,h3.1,hw2.2,by simp only [depL] at hd2;omega⟩
 ·have h2:=ltB_f h1
  cases l2 with
  |cons a l2 =>
   have:=flat_pos a
   simp only [flatL,List.length_append] at hpl
   omega
  |nil =>
  repeat' (first|refine gx ?_|fail)
  refine ⟨_,rfl,?_⟩
  simp at hl
  subst hl
  rfl
end Go.Proofs.YtkmclibmmlgogaaGreat
