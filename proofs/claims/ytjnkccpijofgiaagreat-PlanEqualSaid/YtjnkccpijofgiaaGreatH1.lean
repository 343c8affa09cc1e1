/-
  Sets of numbers: setOf, its closure, ContainsFunc; the reference's in, free.; Ready and Late: the reference's and the program's.; Order, of the reference and of the program.; Order, of the program.; The reference's Heights.
  (Put together by a small program out of several texts; blanks left out to keep the folder small.)
-/
import Derived.Test.YtjnkccpijofgiaaGreatH0
import Derived.Test.YtjnkccpijofgiaaGreatB6
set_option linter.unusedVariables false
set_option linter.unusedSimpArgs false
namespace Go.Proofs.YtjnkccpijofgiaaGreat
open Go.Abs Go.Abs.S
attribute [local irreducible] Rx Ry Rn Ex Pf Rw
def imap (ks:List Int):List (Key×AVal):=ks.map fun n=>(.int .i64 n,.d (.bool true))
def addK (ks:List Int)(n:Int):List Int:=if hasB ks n then ks else ks++[n]
def setK (l:List Int):List Int:=l.foldl addK []
theorem hasB_add (ks:List Int)(n m:Int):hasB (addK ks n) m=(hasB ks m||eqB n m):=by
 unfold addK
 split
 ·rename_i h
  cases he:eqB n m with
  |false=>simp
  |true =>
   rw [eqB_eq] at he
   simp at he
   subst he
   simp [h]
 ·simp [hasB]
theorem hasB_set (l:List Int)(m:Int):∀ ks,hasB (l.foldl addK ks) m=(hasB ks m||hasB l m):=by
 induction l with
 |nil=>intro ks;simp [hasB]
 |cons x l ih =>
  intro ks
  rw [List.foldl_cons,ih,hasB_add]
  simp [hasB,Bool.or_assoc]
theorem hasB_setK (l:List Int)(m:Int):hasB (setK l) m=hasB l m:=by
 rw [setK,hasB_set]
 simp [hasB]
theorem imap_find (n:Int):∀ ks,mapFind .i (.int .i64 n) (imap ks)=some (if hasB ks n then some (.d (.bool true)) else none)
 |[]=>by simp [imap,mapFind,hasB]
 |k::ks=>by
  have h1:=imap_find n ks
  simp only [imap,List.map_cons,mapFind,Data.keyEq,if_true,hasB,List.any_cons]
  have h2:(n==k)=eqB k n:=by
   rw [eqB_eq,Bool.eq_iff_iff]
   simp only [beq_iff_eq]
   exact eq_comm
  rcases Bool.eq_false_or_eq_true (eqB k n) with hb|hb
  ·simp [h2,hb]
  ·simpa [imap,hasB,h2,hb] using h1
theorem imap_put (n:Int):∀ ks,mapPut .i (.int .i64 n) (.d (.bool true)) (imap ks)=some (imap (addK ks n))
 |[]=>by simp [imap,mapPut,addK,hasB]
 |k::ks=>by
  have h1:=imap_put n ks
  simp only [imap,List.map_cons,mapPut,Data.keyEq,if_true]
  have h2:(n==k)=eqB k n:=by
   rw [eqB_eq,Bool.eq_iff_iff]
   simp only [beq_iff_eq]
   exact eq_comm
  cases hb:eqB k n with
  |true =>
   have:n=k:=by
    rw [eqB_eq] at hb
    simp at hb
    exact hb.symm
   subst this
   simp [addK,hasB,hb]
  |false =>
   simp only [imap] at h1
   simp only [h2,hb,h1]
   unfold addK hasB
   cases hq:ks.any fun x=>eqB x n<;>simp only [List.any_cons,hb,Bool.false_or,hq,if_true,Bool.false_eq_true,if_false,List.map_cons,List.cons_append]
theorem imap_bnd:∀ l:List Int,bndL ((imap l).map (·.2))=0
 |[]=>rfl
 |_::l=>by
  have:=imap_bnd l
  simp only [imap,List.map_cons,bndL,AVal.bnd,Nat.zero_max] at this ⊢
  exact this
set_option maxHeartbeats 2000000 in
theorem pm25 (xs:List Int)(a0:AObj)(hx:xs.length≤9223372036854775807):Pm A0 25 [.d (ints xs)] [a0] lim0 (.map 1) [a0,.map (imap (setK xs))]:=by
 suffices h:Pq A0 25 [.d (ints xs)] [a0] lim0 fun v H1=>v= .map 1∧H1=[a0,.map (imap (setK xs))] by
  obtain ⟨v,H1,⟨rfl,rfl⟩,h⟩:=h;exact h
 refine Pq.run (b:=1) [.d (ints xs),.any,.any,.any,.any,.any,.any] rfl rfl rfl rfl rfl ?_
 repeat' (first|refine mkm (h2:= ?_)|refine gx ?_|fail)
 refine Ex.loopS (fun k T H=>∃ (i:Nat) (u v w:AVal),T=[u,v,.map 1,w,.d (ints xs),.d (num xs.length),.d (num i)]∧H=[a0,.map (imap ((xs.take i).foldl addK []))]∧i+k=xs.length) (by rintro _ _ _ ⟨_,_,_,_,rfl,rfl,_⟩;rfl) ?_ (k:=xs.length) ⟨0,_,_,_,rfl,rfl,by simp⟩
 rintro k _ _ ⟨i,u,v,w,rfl,rfl,hk⟩
 refine Ex.nT ?_
 refine Ex.seq ?_
 refine tb (ltB i xs.length) (fun h1=> ?_) (fun h1=> ?_)
 ·have h2:=ltB_t h1
  have p1:=imap_put (nth xs i) ((xs.take i).foldl addK [])
  repeat' (first|refine mp p1 (by simp [Data.keyEq]) (h2:= ?_)|refine gx ?_|fail)
  exact ⟨k - 1,by omega,i+1,_,_,_,rfl,by rw [take_nth (by omega),List.foldl_append];rfl,by omega⟩
 ·have h2:=ltB_f h1
  rw [List.take_of_length_le (by omega)]
  refine gr ?_
  exact ⟨_,_,rfl,rfl,rfl⟩
structure Pl where
 x:Abs.Data
 y:Abs.Data
 st:List PStep
def planD (p:Pl):AVal:= .agg [.d p.x,.d p.y,.d (stps p.st)]
def planO (p:Pl):AObj:= .cells [.d p.x,.d p.y,.d (stps p.st)]
abbrev M3 (p:Pl)(ks:List Int):Heap:=[planO p,.map (imap ks),.cells [.map 1]]
def l3:Lim:=⟨0,3,3,3⟩
theorem pm26 (p:Pl)(ks:List Int)(n:Int):Pm A0 26 [.d (num n),.ptr 2 0] (M3 p ks) l3 (.d (.bool (!hasB ks n))) (M3 p ks):=by
 have hf:=imap_find n ks
 suffices h:Pq A0 26 [.d (num n),.ptr 2 0] (M3 p ks) l3 fun v H1=>v= .d (.bool (!hasB ks n))∧H1=M3 p ks by
  obtain ⟨v,H1,⟨rfl,rfl⟩,h⟩:=h;exact h
 refine Pq.run (b:=3) [.d (num n),.ptr 2 0,.any] rfl rfl rfl rfl rfl ?_
 rcases Bool.eq_false_or_eq_true (hasB ks n) with hb|hb
 ·rw [hb,if_pos rfl] at hf
  repeat' (first|refine lk1 hf rfl ?_|refine gx ?_|fail)
  exact ⟨_,_,rfl,by rw [hb];rfl,rfl⟩
 ·rw [hb,if_neg (by simp)] at hf
  repeat' (first|refine lk1 hf rfl ?_|refine gx ?_|fail)
  exact ⟨_,_,rfl,by rw [hb];rfl,rfl⟩
def fiN (ks:List Int):List Int→Nat→Int
 |[],_=> -1
 |y::r,i=>if !hasB ks y then i else fiN ks r (i+1)
theorem fiN_any (ks:List Int):∀ (l:List Int) (i:Nat),leB 0 (fiN ks l i)=l.any fun y=> !hasB ks y
 |[],i=>by simp [fiN,leB_eq]
 |y::r,i=>by
  have h1:=fiN_any ks r (i+1)
  simp only [fiN,List.any_cons]
  rcases Bool.eq_false_or_eq_true (!hasB ks y) with h3|h3
  ·simp [h3,leB_eq]
  ·simpa [h3] using h1
set_option maxHeartbeats 2000000 in
theorem pm54 (p:Pl)(ks xs:List Int)(hx:xs.length≤9223372036854775807):Pm A0 54 [.d (ints xs),.func 26 [] [.ptr 2 0]] (M3 p ks) l3 (.d (num (fiN ks xs 0))) (M3 p ks):=by
 suffices h:Pq A0 54 [.d (ints xs),.func 26 [] [.ptr 2 0]] (M3 p ks) l3 fun v H1=>v= .d (num (fiN ks xs 0))∧H1=M3 p ks by
  obtain ⟨v,H1,⟨rfl,rfl⟩,h⟩:=h;exact h
 refine Pq.run (b:=3) [.d (ints xs),.func 26 [] [.ptr 2 0],.any,.any,.any,.any] rfl rfl rfl rfl rfl ?_
 refine gr ?_
 refine Ex.loopS (fun k T H=>∃ (i:Nat) (v w:AVal),T=[.d (ints xs),.func 26 [] [.ptr 2 0],v,w,.d (num xs.length),.d (num i)]∧H=M3 p ks∧i+k=xs.length∧fiN ks xs 0=fiN ks (xs.drop i) i) (by rintro _ _ _ ⟨_,_,_,_,rfl,_⟩;rfl) ?_ (k:=xs.length) ⟨0,_,_,rfl,rfl,by simp,by simp⟩
 rintro k _ _ ⟨i,v,w,rfl,rfl,hk,hi⟩
 refine Ex.nT ?_
 refine Ex.seq ?_
 refine tb (ltB i xs.length) (fun h1=> ?_) (fun h1=> ?_)
 ·have h2:=ltB_t h1
  rw [drop_nth (by omega)] at hi
  have p1:=pm26 p ks (nth xs i)
  refine gr ?_
  refine tB (!hasB ks (nth xs i)) ?_ (fun h3=> ?_) (fun h3=> ?_)
  ·repeat' (first|refine cv1 p1 rfl ?_|refine gx ?_|refine fk (h1:=fun hw=> ?_) (h2:=fun hw=> ?_)|refine fpk (h1:=fun hw=> ?_) (h2:=fun hw=> ?_)|refine ⟨rfl,rfl,_,rfl,?_⟩|refine ⟨rfl,rfl⟩|fail)
   all_goals exact cc
  ·refine gr ?_
   exact ⟨_,_,rfl,by rw [hi,fiN,h3];rfl,rfl⟩
  ·refine gr ?_
   exact ⟨k - 1,by omega,i+1,_,_,rfl,rfl,by omega,by rw [hi,fiN,h3];rfl⟩
 ·have h2:=ltB_f h1
  rw [List.drop_of_length_le (by omega)] at hi
  refine gr ?_
  exact ⟨_,_,rfl,by rw [hi];rfl,rfl⟩
theorem pm27 (p:Pl)(ks xs:List Int)(hx:xs.length≤9223372036854775807):Pm A0 27 [.d (ints xs),.func 26 [] [.ptr 2 0]] (M3 p ks) l3 (.d (.bool (xs.any fun y=> !hasB ks y))) (M3 p ks):=by
 have p1:=pm54 p ks xs hx
 rw [← fiN_any ks xs 0]
 suffices h:Pq A0 27 [.d (ints xs),.func 26 [] [.ptr 2 0]] (M3 p ks) l3 fun v H1=>v= .d (.bool (leB 0 (fiN ks xs 0)))∧H1=M3 p ks by
  obtain ⟨v,H1,⟨rfl,rfl⟩,h⟩:=h;exact h
 refine Pq.run (b:=3) [.d (ints xs),.func 26 [] [.ptr 2 0],.any] rfl rfl rfl rfl rfl ?_
 repeat' (first|refine c1 p1 rfl ?_|refine gx ?_|fail)
 exact ⟨_,_,rfl,rfl,rfl⟩
theorem pf28 (xs:List Int)(n:Int)(hx:xs.length≤9223372036854775807):Pf A0 28 [.d (ints xs),.d (num n)] (.d (.bool (hasB xs n))):=by
 refine Pf.run [.d (ints xs),.d (num n),.any,.any] rfl rfl rfl rfl ?_
 refine gr ?_
 refine Ex.loopS (fun k T H=>∃ (i:Nat) (v:AVal),T=[.d (ints xs),.d (num n),v,.d (num i)]∧H=[]∧i+k=xs.length∧hasB xs n=(xs.drop i).any fun x=>eqB x n) (by rintro _ _ _ ⟨_,_,_,rfl,_⟩;rfl) ?_ (k:=xs.length) ⟨0,_,rfl,rfl,by simp,by simp [hasB]⟩
 rintro k _ _ ⟨i,v,rfl,rfl,hk,hi⟩
 refine Ex.nT ?_
 repeat' (first|refine gx ?_|refine Ex.condP ?_|refine Ex.condN ?_|refine Ex.cond rfl (fun ht=> ?_) (fun ht=> ?_)|refine Ex.test (Rn.text ?_)|refine Ex.test (Rn.draw ?_)|refine ⟨_,rfl,fun ht=> ?_,fun ht=> ?_⟩|refine ⟨_,rfl,?_⟩|fail)
 ·have h1:=ltB_t ‹ltB i _=true›
  rw [drop_nth (by omega)] at hi
  simp [hi,ht,oneOrTuple]
 ·have h1:=ltB_t ‹ltB i _=true›
  rw [drop_nth (by omega)] at hi
  exact ⟨k - 1,by omega,i+1,_,rfl,rfl,by omega,by simp [hi,ht]⟩
 ·have h1:=ltB_f ht
  rw [List.drop_of_length_le (by omega)] at hi
  simp [hi,oneOrTuple]
theorem pf29 (s:PStep)(ds:List Int)(hs:s.af.length≤9223372036854775807)(hd:ds.length≤9223372036854775807):Pf A0 29 [.agg [.d (num s.m),.d (num s.k),.d (num s.i),.d (ints s.af),.d (num s.dl)],.d (ints ds)] (.d (.bool (s.af.all fun y=>hasB ds y))):=by
 refine Pf.run [.agg [.d (num s.m),.d (num s.k),.d (num s.i),.d (ints s.af),.d (num s.dl)],.d (ints ds),.any,.any,.any] rfl rfl rfl rfl ?_
 refine gr ?_
 refine Ex.loopS (fun k T H=>∃ (i:Nat) (u v:AVal),T=[u,.d (ints ds),.ptr 0 0,v,.d (num i)]∧H=[.cells [.d (num s.m),.d (num s.k),.d (num s.i),.d (ints s.af),.d (num s.dl)]]∧i+k=s.af.length∧(s.af.all fun y=>hasB ds y)=(s.af.drop i).all fun y=>hasB ds y) (by rintro _ _ _ ⟨_,_,_,rfl,rfl,_⟩;rfl) ?_ (k:=s.af.length) ⟨0,_,_,rfl,rfl,by simp,by simp⟩
 rintro k _ _ ⟨i,u,v,rfl,rfl,hk,hi⟩
 refine Ex.nT ?_
 refine Ex.seq ?_
 refine tb (ltB i s.af.length) (fun h1=> ?_) (fun h1=> ?_)
 ·have h2:=ltB_t h1
  rw [drop_nth (by omega)] at hi
  have p1:=pf28 ds (nth s.af i) hd
  refine gr ?_
  refine tB (!hasB ds (nth s.af i)) ?_ (fun h3=> ?_) (fun h3=> ?_)
  ·repeat' (first|refine cl (p1) ?_|refine gx ?_|refine fk (h1:=fun hw=> ?_) (h2:=fun hw=> ?_)|refine fpk (h1:=fun hw=> ?_) (h2:=fun hw=> ?_)|refine ⟨rfl,rfl,_,rfl,?_⟩|refine ⟨rfl,rfl⟩|fail)
   all_goals exact cc
  ·simp only [Bool.not_eq_true'] at h3
   refine gr ?_
   exact ⟨_,rfl,by simp [hi,h3,oneOrTuple]⟩
  ·simp only [Bool.not_eq_false'] at h3
   refine gr ?_
   exact ⟨k - 1,by omega,i+1,_,_,rfl,rfl,by omega,by simp [hi,h3]⟩
 ·have h2:=ltB_f h1
  rw [List.drop_of_length_le (by omega)] at hi
  refine gr ?_
  exact ⟨_,rfl,by simp [hi,oneOrTuple]⟩
end Go.Proofs.YtjnkccpijofgiaaGreat
namespace Go.Proofs.YtjnkccpijofgiaaGreat
open Go.Abs Go.Abs.S
attribute [local irreducible] Rx Ry Rn Ex Pf Rw
theorem filt_len (f:Nat→Bool):∀ i,(filt f i).length≤i
 |0=>by simp [filt]
 |i+1=>by
  have:=filt_len f i
  simp only [filt]
  split<;>simp<;>omega
def lateB (p:Pl)(ds:List Int)(day:Int)(i:Nat):Bool:= !hasB ds i&&ltB (nth p.st i).dl day
abbrev nE (n:Int):List Abs.Data:=[num n]
structure Few1 (p:Pl):Prop where
 st:p.st.length≤20
 af:∀ i,i<p.st.length→(nth p.st i).af.length≤20
set_option maxHeartbeats 2000000 in
theorem pf14 (p:Pl)(ds:List Int)(hp:Few1 p)(hd:ds.length≤9223372036854775807):Pf A0 14 [planD p,.d (ints ds)] (.d (ints (filt (openS p.st ds) p.st.length))):=by
 refine Pf.run [planD p,.d (ints ds),.any,.any,.any,.any] rfl rfl rfl rfl ?_
 have hl:=hp.st
 refine gr ?_
 refine Ex.loopS (fun k T H=>∃ (i:Nat) (u v:AVal),T=[u,.d (ints ds),.ptr 0 0,v,ownL 1 nE (filt (openS p.st ds) i),.d (num i)]∧H=[planO p]∧i+k=p.st.length) (by rintro _ _ _ ⟨_,_,_,rfl,rfl,_⟩;rfl) ?_ (k:=p.st.length) ⟨0,_,_,rfl,rfl,by simp⟩
 rintro k _ _ ⟨i,u,v,rfl,rfl,hk⟩
 refine Ex.nT ?_
 refine Ex.seq ?_
 refine tb (ltB i p.st.length) (fun h1=> ?_) (fun h1=> ?_)
 ·have h2:=ltB_t h1
  have i1:i<p.st.length:=by omega
  have p1:=pf28 ds i hd
  have p2:=pf29 (nth p.st i) ds (by have:=hp.af i i1;omega) hd
  have hl2:=filt_len (openS p.st ds) i
  refine gr ?_
  refine tB (openS p.st ds i) ?_ (fun h3=> ?_) (fun h3=> ?_)
  ·repeat' (first|refine cl (p1) ?_|refine cl (p2) ?_|refine gx ?_|refine fk (h1:=fun hw=> ?_) (h2:=fun hw=> ?_)|refine fpk (h1:=fun hw=> ?_) (h2:=fun hw=> ?_)|refine ⟨rfl,rfl,_,rfl,?_⟩|refine ⟨rfl,rfl⟩|fail)
   all_goals first|(simp [*,oneOrTuple,openS];done)|(simp_all [oneOrTuple,openS];done)|(simp_all [oneOrTuple,openS,ltB_eq,leB_eq,eqB_eq,seB_eq];done)|(simp_all [oneOrTuple,openS,ltB_eq,leB_eq,eqB_eq,seB_eq]<;>omega)
  ·have e:filt (openS p.st ds) (i+1)=filt (openS p.st ds) i++[(i:Int)]:=by simp [filt,h3]
   refine gr ?_
   exact ⟨k - 1,by omega,i+1,_,_,by rw [e];rfl,rfl,by omega⟩
  ·have e:filt (openS p.st ds) (i+1)=filt (openS p.st ds) i:=by simp [filt,h3]
   refine gr ?_
   exact ⟨k - 1,by omega,i+1,_,_,by rw [e];rfl,rfl,by omega⟩
 ·have h2:=ltB_f h1
  obtain rfl:i=p.st.length:=by omega
  refine gr ?_
  exact ⟨_,rfl,rfl⟩
set_option maxHeartbeats 2000000 in
theorem pf16 (p:Pl)(ds:List Int)(day:Int)(hp:Few1 p)(hd:ds.length≤9223372036854775807):Pf A0 16 [planD p,.d (ints ds),.d (num day)] (.d (ints (filt (lateB p ds day) p.st.length))):=by
 refine Pf.run [planD p,.d (ints ds),.d (num day),.any,.any,.any,.any] rfl rfl rfl rfl ?_
 have hl:=hp.st
 refine gr ?_
 refine Ex.loopS (fun k T H=>∃ (i:Nat) (u v:AVal),T=[u,.d (ints ds),.d (num day),.ptr 0 0,v,ownL 1 nE (filt (lateB p ds day) i),.d (num i)]∧H=[planO p]∧i+k=p.st.length) (by rintro _ _ _ ⟨_,_,_,rfl,rfl,_⟩;rfl) ?_ (k:=p.st.length) ⟨0,_,_,rfl,rfl,by simp⟩
 rintro k _ _ ⟨i,u,v,rfl,rfl,hk⟩
 refine Ex.nT ?_
 refine Ex.seq ?_
 refine tb (ltB i p.st.length) (fun h1=> ?_) (fun h1=> ?_)
 ·have h2:=ltB_t h1
  have i1:i<p.st.length:=by omega
  have p1:=pf28 ds i hd
  have hl2:=filt_len (lateB p ds day) i
  refine gr ?_
  refine tB (lateB p ds day i) ?_ (fun h3=> ?_) (fun h3=> ?_)
  ·repeat' (first|refine cl (p1) ?_|refine gx ?_|refine fk (h1:=fun hw=> ?_) (h2:=fun hw=> ?_)|refine fpk (h1:=fun hw=> ?_) (h2:=fun hw=> ?_)|refine ⟨rfl,rfl,_,rfl,?_⟩|refine ⟨rfl,rfl⟩|fail)
   all_goals first|(simp [*,oneOrTuple,lateB];done)|(simp_all [oneOrTuple,lateB];done)|(simp_all [oneOrTuple,lateB,ltB_eq,leB_eq,eqB_eq,seB_eq];done)|(simp_all [oneOrTuple,lateB,ltB_eq,leB_eq,eqB_eq,seB_eq]<;>omega)
  ·have e:filt (lateB p ds day) (i+1)=filt (lateB p ds day) i++[(i:Int)]:=by simp [filt,h3]
   refine gr ?_
   exact ⟨k - 1,by omega,i+1,_,_,by rw [e];rfl,rfl,by omega⟩
  ·have e:filt (lateB p ds day) (i+1)=filt (lateB p ds day) i:=by simp [filt,h3]
   refine gr ?_
   exact ⟨k - 1,by omega,i+1,_,_,by rw [e];rfl,rfl,by omega⟩
 ·have h2:=ltB_f h1
  obtain rfl:i=p.st.length:=by omega
  refine gr ?_
  exact ⟨_,rfl,rfl⟩
theorem open_eq (p:Pl)(ds:List Int)(i:Nat):openS p.st ds i=(!hasB (setK ds) i&& !((nth p.st i).af.any fun y=> !hasB (setK ds) y)):=by
 simp only [openS,hasB_setK]
 congr 1
 generalize (nth p.st i).af=l
 induction l with
 |nil=>rfl
 |cons a l ih=>simp only [List.all_cons,List.any_cons,Bool.not_or,Bool.not_not,ih]
theorem M2_bnd (p:Pl)(ks:List Int):bndO [planO p,.map (imap ks)]≤2:=by
 have h1:=imap_bnd ks
 have e1:bndL [AVal.d p.x,.d p.y,.d (stps p.st)]=0:=rfl
 simp only [planO,bndO,AObj.bnd,h1,e1]
 decide
theorem M3_bnd (p:Pl)(ks:List Int):bndO (M3 p ks)≤3:=by
 have h1:=imap_bnd ks
 have e1:bndL [AVal.d p.x,.d p.y,.d (stps p.st)]=0:=rfl
 have e2:bndL [AVal.map 1]=2:=rfl
 simp only [planO,bndO,AObj.bnd,h1,e1,e2]
 decide
theorem M3_disc (p:Pl)(ks:List Int):discFrom (M3 p ks) 0=true:=by
 have h1:=imap_bnd ks
 have e1:bndL [AVal.d p.x,.d p.y,.d (stps p.st)]=0:=rfl
 have e2:bndL [AVal.map 1]=2:=rfl
 simp only [planO,discFrom,AObj.bnd,h1,e1,e2]
 decide
set_option maxHeartbeats 4000000 in
theorem pf15 (p:Pl)(ds:List Int)(day:Int)(hp:Few1 p)(hd:ds.length≤9223372036854775807):Pf A0 15 [planD p,.d (ints ds),.d (num day)] (.d (ints (filt (lateB p ds day) p.st.length))):=by
 refine Pf.run [planD p,.d (ints ds),.d (num day),.any,.any,.any,.any,.any,.any,.any,.any,.any] rfl rfl rfl rfl ?_
 have hl:=hp.st
 have p0:=pm25 ds (planO p) hd
 repeat' (first|refine cp p0 (by simp) ?_|refine gx ?_|fail)
 refine Ex.loopC (fun k T H=>∃ (i:Nat),T=[.any,.any,.d (num day),.any,.any,.map 1,ownL 1 nE (filt (lateB p ds day) i),.any,.any,.d (stps p.st),.d (num p.st.length),.d (num i)]∧H=[planO p,.map (imap (setK ds))]∧i+k=p.st.length) ?_ (k:=p.st.length) ⟨0,rfl,rfl,by simp⟩
 rintro k _ _ ⟨i,rfl,rfl,hk⟩
 refine Ex.seq ?_
 refine tb (ltB i p.st.length) (fun h1=> ?_) (fun h1=> ?_)
 ·have h2:=ltB_t h1
  have i1:i<p.st.length:=by omega
  have hl2:=filt_len (lateB p ds day) i
  have hf:=imap_find i (setK ds)
  rw [hasB_setK] at hf
  refine gr ?_
  have fin:∀ (b:Bool),hasB ds i=b→(if hasB ds i=true then some (AVal.d (.bool true)) else none).getD (.d (.bool false))= .d (.bool b):=by
   rintro b rfl
   cases hasB ds i<;>rfl
  refine tB (lateB p ds day i) ?_ (fun h3=> ?_) (fun h3=> ?_)
  ·repeat' (first|refine lk1 hf (fin _ rfl) ?_|refine gx ?_|refine fk (h1:=fun hw=> ?_) (h2:=fun hw=> ?_)|refine fpk (h1:=fun hw=> ?_) (h2:=fun hw=> ?_)|refine ⟨rfl,rfl,_,rfl,?_⟩|refine ⟨rfl,rfl⟩|fail)
   all_goals first|(simp [*,oneOrTuple,lateB];done)|(simp_all [oneOrTuple,lateB];done)|(simp_all [oneOrTuple,lateB,ltB_eq,leB_eq,eqB_eq,seB_eq];done)|(simp_all [oneOrTuple,lateB,ltB_eq,leB_eq,eqB_eq,seB_eq]<;>omega)
  ·have e:filt (lateB p ds day) (i+1)=filt (lateB p ds day) i++[(i:Int)]:=by simp [filt,h3]
   refine gr ?_
   exact ⟨k - 1,by omega,_,_,clean_of (Nat.le_of_ble_eq_true rfl) (M2_bnd p _),i+1,by rw [e];rfl,rfl,by omega⟩
  ·have e:filt (lateB p ds day) (i+1)=filt (lateB p ds day) i:=by simp [filt,h3]
   refine gr ?_
   exact ⟨k - 1,by omega,_,_,clean_of (Nat.le_of_ble_eq_true rfl) (M2_bnd p _),i+1,by rw [e];rfl,rfl,by omega⟩
 ·have h2:=ltB_f h1
  obtain rfl:i=p.st.length:=by omega
  refine gr ?_
  exact ⟨_,rfl,rfl⟩
theorem lim3 (p:Pl)(ks:List Int)(R:AObj):Lim.mk 0 3 3 (strictOf [planO p,.map (imap ks),.cells [.map 1],R] 0 3)=l3:=by
 have h:strictOf [planO p,.map (imap ks),.cells [.map 1],R] 0 3=3:=by
  unfold strictOf
  rw [if_neg (by decide),if_pos (show discFrom (List.drop 0 (List.take 3 [planO p,.map (imap ks),.cells [.map 1],R])) 0=true from M3_disc p ks)]
 rw [h]
 rfl
set_option maxHeartbeats 4000000 in
theorem pf13 (p:Pl)(ds:List Int)(hp:Few1 p)(hd:ds.length≤9223372036854775807):Pf A0 13 [planD p,.d (ints ds)] (.d (ints (filt (openS p.st ds) p.st.length))):=by
 refine Pf.run [planD p,.d (ints ds),.any,.any,.any,.any,.any,.any,.any,.any,.any,.any] rfl rfl rfl rfl ?_
 have hl:=hp.st
 have p0:=pm25 ds (planO p) hd
 repeat' (first|refine cp p0 (by simp) ?_|refine so1 (v:= .map 1) (hb:=Nat.le_of_ble_eq_true rfl) (h2:= ?_)|refine gx ?_|fail)
 refine Ex.loopC (fun k T H=>∃ (i:Nat),T=[.any,.any,.any,.any,.any,.func 26 [] [.ptr 2 0],ownL 1 nE (filt (openS p.st ds) i),.any,.any,.d (stps p.st),.d (num p.st.length),.d (num i)]∧H=M3 p (setK ds)∧i+k=p.st.length) ?_ (k:=p.st.length) ⟨0,rfl,rfl,by simp⟩
 rintro k _ _ ⟨i,rfl,rfl,hk⟩
 refine Ex.seq ?_
 refine tb (ltB i p.st.length) (fun h1=> ?_) (fun h1=> ?_)
 ·have h2:=ltB_t h1
  have i1:i<p.st.length:=by omega
  have hl2:=filt_len (openS p.st ds) i
  have p1:=pm26 p (setK ds) i
  have p2:=pm27 p (setK ds) (nth p.st i).af (by have:=hp.af i i1;omega)
  have b3:=M3_bnd p (setK ds)
  have ho:=open_eq p ds i
  refine gr ?_
  refine tB (openS p.st ds i) ?_ (fun h3=> ?_) (fun h3=> ?_)
  ·repeat' (first|refine cv1 p1 rfl ?_ (hbo:=b3) (hcl:=closeN_of b3) (hl2:=lim3 p _ _)|refine c1 p2 rfl ?_ (hbo:=b3) (hcl:=closeN_of b3) (hl2:=lim3 p _ _)|refine gx ?_|refine fk (h1:=fun hw=> ?_) (h2:=fun hw=> ?_)|refine fpk (h1:=fun hw=> ?_) (h2:=fun hw=> ?_)|refine ⟨rfl,rfl,_,rfl,?_⟩|refine ⟨rfl,rfl⟩|fail)
   all_goals exact cc
  ·have e:filt (openS p.st ds) (i+1)=filt (openS p.st ds) i++[(i:Int)]:=by simp [filt,h3]
   refine gr ?_
   exact ⟨k - 1,by omega,_,_,clean_of (Nat.le_of_ble_eq_true rfl) b3,i+1,by rw [e];rfl,rfl,by omega⟩
  ·have e:filt (openS p.st ds) (i+1)=filt (openS p.st ds) i:=by simp [filt,h3]
   refine gr ?_
   exact ⟨k - 1,by omega,_,_,clean_of (Nat.le_of_ble_eq_true rfl) b3,i+1,by rw [e];rfl,rfl,by omega⟩
 ·have h2:=ltB_f h1
  obtain rfl:i=p.st.length:=by omega
  refine gr ?_
  exact ⟨_,rfl,rfl⟩
end Go.Proofs.YtjnkccpijofgiaaGreat
namespace Go.Proofs.YtjnkccpijofgiaaGreat
open Go.Abs Go.Abs.S
attribute [local irreducible] Rx Ry Rn Ex Pf Rw
def okA (st:List PStep)(a:Int):Bool:= !(ltB a 0||leB st.length a)
theorem numB_eq (st:List PStep):numB st=st.all fun s=>s.af.all fun a=>okA st a:=rfl
set_option maxHeartbeats 4000000 in
theorem pf23 (p:Pl)(hp:Few1 p):Pf A0 23 [planD p] (.d (.bool (numB p.st))):=by
 refine Pf.run [planD p,.any,.any,.any,.any] rfl rfl rfl rfl ?_
 have hl:=hp.st
 refine gr ?_
 refine Ex.loopS (fun k T H=>∃ (i:Nat) (u v w:AVal),T=[u,.ptr 0 0,v,.d (num i),w]∧H=[planO p]∧i+k=p.st.length∧numB p.st=(p.st.drop i).all fun s=>s.af.all fun a=>okA p.st a) (by rintro _ _ _ ⟨_,_,_,_,rfl,rfl,_⟩;rfl) ?_ (k:=p.st.length) ⟨0,_,_,_,rfl,rfl,by simp,by simp [numB_eq]⟩
 rintro k _ _ ⟨i,u,v,w,rfl,rfl,hk,hi⟩
 refine Ex.nT ?_
 refine Ex.seq ?_
 refine tb (ltB i p.st.length) (fun h1=> ?_) (fun h1=> ?_)
 ·have h2:=ltB_t h1
  have i1:i<p.st.length:=by omega
  have ha:=hp.af i i1
  rw [drop_nth (by omega)] at hi
  simp only [List.all_cons] at hi
  refine gr ?_
  refine Ex.loopS (fun q T H=>∃ (j:Nat) (u v:AVal),T=[u,.ptr 0 0,v,.d (num i),.d (num j)]∧H=[planO p]∧j+q=(nth p.st i).af.length∧numB p.st=(((nth p.st i).af.drop j).all (fun a=>okA p.st a)&&(p.st.drop (i+1)).all fun s=>s.af.all fun a=>okA p.st a)) (by rintro _ _ _ ⟨_,_,_,rfl,rfl,_⟩;rfl) ?_ (k:=(nth p.st i).af.length) ⟨0,_,_,rfl,rfl,by simp,by simpa using hi⟩
  rintro q _ _ ⟨j,u2,v2,rfl,rfl,hq,hj⟩
  refine Ex.nT ?_
  refine Ex.seq ?_
  refine tb (ltB j (nth p.st i).af.length) (fun h3=> ?_) (fun h3=> ?_)
  ·have h4:=ltB_t h3
   rw [drop_nth (by omega)] at hj
   simp only [List.all_cons] at hj
   refine gr ?_
   refine tb ((ltB (nth (nth p.st i).af j) 0||leB p.st.length (nth (nth p.st i).af j))) (fun h5=> ?_) (fun h5=> ?_)
   ·refine gr ?_
    exact ⟨_,rfl,by rw [hj];simp [okA,h5,oneOrTuple]⟩
   ·refine gr ?_
    exact ⟨q - 1,by omega,j+1,_,_,rfl,rfl,by omega,by rw [hj];simp [okA,h5]⟩
  ·have h4:=ltB_f h3
   rw [List.drop_of_length_le (by omega)] at hj
   refine gr ?_
   exact ⟨k - 1,by omega,i+1,_,_,_,rfl,rfl,by omega,by simpa using hj⟩
 ·have h2:=ltB_f h1
  rw [List.drop_of_length_le (by omega)] at hi
  have h5:leB p.st.length 128=true:=by simp [leB_eq];omega
  refine gr ?_
  exact ⟨_,rfl,by rw [hi];simp [h5,oneOrTuple]⟩
theorem ordTo_none {st:List PStep}:∀ {m k:Nat},ordTo st k=none→k≤m→ordTo st m=none
 |0,k,h,hk=>by
  obtain rfl:k=0:=by omega
  exact h
 |m+1,k,h,hk=>by
  rcases Nat.lt_or_ge k (m+1) with h1|h1
  ·simp only [ordTo,ordTo_none h (show k≤m by omega)]
  ·obtain rfl:k=m+1:=by omega
   exact h
theorem ordTo_stop {st:List PStep}{i:Nat}{o:List Int}(h:ordTo st i=some o)(hf:(filt (openS st o) st.length).length=0)(hi:i<st.length)(hn:numB st=true):ordR st=(105,[]):=by
 have h1:ordTo st (i+1)=none:=by
  simp only [ordTo,h,List.eq_nil_of_length_eq_zero hf]
 simp only [ordR,hn,if_true,ordTo_none h1 (show i+1≤st.length by omega)]
theorem ordTo_go {st:List PStep}{i:Nat}{o:List Int}(h:ordTo st i=some o)(hf:(filt (openS st o) st.length).length≠0):ordTo st (i+1)=some (o++[nth (filt (openS st o) st.length) 0]):=by
 simp only [ordTo,h]
 cases hq:filt (openS st o) st.length with
 |nil=>rw [hq] at hf;simp at hf
 |cons x l=>rw [nth_eq (by simp)];rfl
theorem ordTo_end {st:List PStep}{o:List Int}(h:ordTo st st.length=some o)(hn:numB st=true):ordR st=(0,o):=by
 simp only [ordR,hn,if_true,h]
theorem ordTo_len {st:List PStep}:∀ {i:Nat} {o:List Int},ordTo st i=some o→o.length=i
 |0,o,h=>by simp [ordTo] at h;simp [← h]
 |i+1,o,h=>by
  simp only [ordTo] at h
  cases hq:ordTo st i with
  |none=>rw [hq] at h;cases h
  |some o' =>
   rw [hq] at h
   simp only at h
   split at h
   ·cases h
   ·cases h
    simp [ordTo_len hq]
set_option maxHeartbeats 4000000 in
theorem pf11 (p:Pl)(hp:Few1 p):Pf A0 11 [planD p] (.tuple [.d (ints (ordR p.st).2),.d (num (ordR p.st).1)]):=by
 refine Pf.run [planD p,.any,.any,.any,.any,.any] rfl rfl rfl rfl ?_
 have hl:=hp.st
 have p1:=pf23 p hp
 refine gr ?_
 refine tB (!numB p.st) ?_ (fun h1=> ?_) (fun h1=> ?_)
 ·repeat' (first|refine cl (p1) ?_|refine gx ?_|refine fk (h1:=fun hw=> ?_) (h2:=fun hw=> ?_)|refine fpk (h1:=fun hw=> ?_) (h2:=fun hw=> ?_)|refine ⟨rfl,rfl,_,rfl,?_⟩|refine ⟨rfl,rfl⟩|fail)
  all_goals exact cc
 ·simp only [Bool.not_eq_true'] at h1
  have e:ordR p.st=(1,[]):=by simp [ordR,h1]
  rw [e]
  refine gr ?_
  exact ⟨_,rfl,rfl⟩
 ·simp only [Bool.not_eq_false'] at h1
  refine gr ?_
  refine Ex.loopS (fun k T H=>∃ (i:Nat) (o:List Int) (u v w x:AVal),T=[u,.ptr 0 0,v,w,ownL 1 nE o,x]∧H=[planO p]∧i+k=p.st.length∧ordTo p.st i=some o) (by rintro _ _ _ ⟨_,_,_,_,_,_,rfl,rfl,_⟩;rfl) ?_ (k:=p.st.length) ⟨0,[],_,_,_,_,rfl,rfl,by simp,rfl⟩
  rintro k _ _ ⟨i,o,u,v,w,x,rfl,rfl,hk,ho⟩
  have hol:=ordTo_len ho
  refine Ex.nT ?_
  refine Ex.seq ?_
  refine tb (ltB o.length p.st.length) (fun h2=> ?_) (fun h2=> ?_)
  ·have h3:=ltB_t h2
   have p2:=pf14 p o hp (by omega)
   have fl:=filt_len (openS p.st o) p.st.length
   repeat' (first|refine cl (p2) ?_|refine gx ?_|fail)
   refine tb (eqB (filt (openS p.st o) p.st.length).length 0) (fun h4=> ?_) (fun h4=> ?_)
   ·have h5:=ordTo_stop ho (by simp [eqB_eq] at h4;simpa using h4) (by omega) h1
    rw [h5]
    refine gr ?_
    exact ⟨_,rfl,rfl⟩
   ·have h5:=ordTo_go ho (by simp [eqB_eq] at h4;simpa using h4)
    have h6:(filt (openS p.st o) p.st.length).length≠0:=by simp [eqB_eq] at h4;simpa using h4
    refine gr ?_
    exact ⟨k - 1,by omega,i+1,_,_,_,_,_,rfl,rfl,by omega,h5⟩
  ·have h3:=ltB_f h2
   obtain rfl:i=p.st.length:=by omega
   rw [ordTo_end ho h1]
   refine gr ?_
   exact ⟨_,rfl,rfl⟩
end Go.Proofs.YtjnkccpijofgiaaGreat
namespace Go.Proofs.YtjnkccpijofgiaaGreat
open Go.Abs Go.Abs.S
attribute [local irreducible] Rx Ry Rn Ex Pf Rw
set_option maxHeartbeats 4000000 in
theorem pf10 (p:Pl)(hp:Few1 p):Pf A0 10 [planD p] (.tuple [.d (ints (ordR p.st).2),.d (num (ordR p.st).1)]):=by
 refine Pf.run [planD p,.any,.any,.any,.any,.any,.any,.any,.any,.any,.any,.any,.any,.any] rfl rfl rfl rfl ?_
 have hl:=hp.st
 have h128:ltB 128 p.st.length=false:=by simp [ltB_eq];omega
 repeat' (first|refine dfl ?_|refine gx ?_|fail)
 refine tb (ltB 128 p.st.length) (fun h0=> ?_) (fun h0=> ?_)
 ·rw [h128] at h0;cases h0
 refine gr ?_
 refine Ex.loopC (fun k T H=>∃ (i:Nat),T=[.any,.ptr 0 0,.ptr 1 0,.ptr 2 0,.any,.any,.any,.any,.d (stps p.st),.d (num p.st.length),.d (num i),.any,.any,.any]∧H=[planO p,.cells [.own 1 0 []],.cells [.d (num 0)]]∧i+k=p.st.length∧numB p.st=(p.st.drop i).all fun s=>s.af.all fun a=>okA p.st a) ?_ (k:=p.st.length) ⟨0,rfl,rfl,by simp,by simp [numB_eq]⟩
 rintro k _ _ ⟨i,rfl,rfl,hk,hi⟩
 refine Ex.seq ?_
 refine tb (ltB i p.st.length) (fun h1=> ?_) (fun h1=> ?_)
 ·have h2:=ltB_t h1
  have i1:i<p.st.length:=by omega
  have ha:=hp.af i i1
  rw [drop_nth (by omega)] at hi
  simp only [List.all_cons] at hi
  refine gr ?_
  refine Ex.loopC (fun q T H=>∃ (j:Nat),T=[.any,.ptr 0 0,.ptr 1 0,.ptr 2 0,.any,.any,.any,.any,.d (stps p.st),.d (num p.st.length),.d (num i),.d (ints (nth p.st i).af),.d (num (nth p.st i).af.length),.d (num j)]∧H=[planO p,.cells [.own 1 0 []],.cells [.d (num 0)],.cells ((encPS (nth p.st i)).map .d)]∧j+q=(nth p.st i).af.length∧numB p.st=(((nth p.st i).af.drop j).all (fun a=>okA p.st a)&&(p.st.drop (i+1)).all fun s=>s.af.all fun a=>okA p.st a)) ?_ (k:=(nth p.st i).af.length) ⟨0,rfl,rfl,by simp,by simpa using hi⟩
  rintro q _ _ ⟨j,rfl,rfl,hq,hj⟩
  refine Ex.seq ?_
  refine tb (ltB j (nth p.st i).af.length) (fun h3=> ?_) (fun h3=> ?_)
  ·have h4:=ltB_t h3
   rw [drop_nth (by omega)] at hj
   simp only [List.all_cons] at hj
   refine gr ?_
   refine tb ((ltB (nth (nth p.st i).af j) 0||leB p.st.length (nth (nth p.st i).af j))) (fun h5=> ?_) (fun h5=> ?_)
   ·have e:ordR p.st=(1,[]):=by
     have:numB p.st=false:=by rw [hj];simp [okA,h5]
     simp [ordR,this]
    rw [e]
    repeat' (first|refine soc (h2:= ?_)|refine so1 (h2:= ?_)|refine gx ?_|fail)
    exact ⟨_,rfl,rfl⟩
   ·refine gr ?_
    exact ⟨q - 1,by omega,_,_,rfl,j+1,rfl,rfl,by omega,by rw [hj];simp [okA,h5]⟩
  ·have h4:=ltB_f h3
   rw [List.drop_of_length_le (by omega)] at hj
   refine gr ?_
   exact ⟨k - 1,by omega,_,_,rfl,i+1,rfl,rfl,by omega,by simpa using hj⟩
 ·have h2:=ltB_f h1
  rw [List.drop_of_length_le (by omega)] at hi
  have hn:numB p.st=true:=by simpa using hi
  refine gr ?_
  refine Ex.loopC (fun k T H=>∃ (i:Nat) (o:List Int),T=[.any,.ptr 0 0,.ptr 1 0,.ptr 2 0,.any,.any,ownL 1 nE o,.any,.any,.any,.any,.any,.any,.any]∧H=[planO p,.cells [.own 1 0 []],.cells [.d (num 0)]]∧i+k=p.st.length∧ordTo p.st i=some o) ?_ (k:=p.st.length) ⟨0,[],rfl,rfl,by simp,rfl⟩
  rintro k _ _ ⟨i,o,rfl,rfl,hk,ho⟩
  have hol:=ordTo_len ho
  refine Ex.seq ?_
  refine tb (ltB o.length p.st.length) (fun h2=> ?_) (fun h2=> ?_)
  ·have h3:=ltB_t h2
   have p2:=pf13 p o hp (by omega)
   have fl:=filt_len (openS p.st o) p.st.length
   repeat' (first|refine cl (p2) ?_|refine gx ?_|fail)
   refine tb (eqB (filt (openS p.st o) p.st.length).length 0) (fun h4=> ?_) (fun h4=> ?_)
   ·have h5:=ordTo_stop ho (by simp [eqB_eq] at h4;simpa using h4) (by omega) hn
    rw [h5]
    repeat' (first|refine soc (h2:= ?_)|refine so1 (h2:= ?_)|refine gx ?_|fail)
    exact ⟨_,rfl,rfl⟩
   ·have h5:=ordTo_go ho (by simp [eqB_eq] at h4;simpa using h4)
    have h6:(filt (openS p.st o) p.st.length).length≠0:=by simp [eqB_eq] at h4;simpa using h4
    refine gr ?_
    exact ⟨k - 1,by omega,_,_,rfl,i+1,_,rfl,rfl,by omega,h5⟩
  ·have h3:=ltB_f h2
   obtain rfl:i=p.st.length:=by omega
   rw [ordTo_end ho hn]
   repeat' (first|refine soc (h2:= ?_)|refine so1 (h2:= ?_)|refine gx ?_|fail)
   exact ⟨_,rfl,rfl⟩
end Go.Proofs.YtjnkccpijofgiaaGreat
namespace Go.Proofs.YtjnkccpijofgiaaGreat
open Go.Abs Go.Abs.S
attribute [local irreducible] Rx Ry Rn Ex Pf Rw
theorem filt_mem {f:Nat→Bool}{x:Int}:∀ {n:Nat},x ∈ filt f n→0≤x∧x<n
 |0,h=>by simp [filt] at h
 |n+1,h=>by
  simp only [filt] at h
  split at h
  ·rcases List.mem_append.1 h with h|h
   ·have:=filt_mem h;omega
   ·simp at h;omega
  ·have:=filt_mem h;omega
theorem ordTo_mem {st:List PStep}:∀ {i:Nat} {o:List Int},ordTo st i=some o→∀ x ∈ o,0≤x∧x<st.length
 |0,o,h=>by cases h;intro x hx;cases hx
 |i+1,o,h=>by
  simp only [ordTo] at h
  cases hq:ordTo st i with
  |none=>rw [hq] at h;cases h
  |some o' =>
   rw [hq] at h
   simp only at h
   split at h
   ·cases h
   ·rename_i x l hf
    cases h
    intro y hy
    rcases List.mem_append.1 hy with hy|hy
    ·exact ordTo_mem hq y hy
    ·simp at hy
     subst hy
     exact filt_mem (f:=openS st o') (by rw [hf];simp)
structure IsOrd (st:List PStep)(o:List Int):Prop where
 len:o.length=st.length
 mem:∀ x ∈ o,0≤x∧x<st.length
 af:∀ i,i<st.length→∀ a ∈ (nth st i).af,0≤a∧a<st.length
theorem ordR_ok {st:List PStep}(h:(ordR st).1=0):IsOrd st (ordR st).2:=by
 unfold ordR at h ⊢
 split at h
 ·rename_i hn
  rw [if_pos hn]
  cases hq:ordTo st st.length with
  |none=>rw [hq] at h;cases h
  |some o =>
   refine ⟨ordTo_len hq,ordTo_mem hq,fun i hi a ha=> ?_⟩
   have h1:=List.all_eq_true.1 (List.all_eq_true.1 hn _ (nth_mem hi)) a ha
   simp [ltB_eq,leB_eq] at h1
   omega
 ·cases h
theorem bumpI_len (n:Nat)(hs:List Int)(k:Nat):(bumpI n hs k).length=hs.length:=by simp [bumpI]
theorem bumpF_len (n:Nat):∀ (l:List Int) (hs:List Int),(l.foldl (fun hs k=>bumpI n hs k.toNat) hs).length=hs.length
 |[],hs=>rfl
 |a::l,hs=>by rw [List.foldl_cons,bumpF_len n l,bumpI_len]
theorem bumpL_len (st:List PStep):∀ (l:List Int) (hs:List Int),(l.foldl (bumpL st) hs).length=hs.length
 |[],hs=>rfl
 |a::l,hs=>by rw [List.foldl_cons,bumpL_len st l,bumpL,bumpF_len]
theorem frz_iv {H:Heap}{n:Nat}:∀ (hs:List Int) (fuel:Nat),hs.length<fuel→frzL H n fuel (hs.map iv)=some (hs.map iv)
 |[],fuel+1,_=>rfl
 |h::hs,fuel+1,hl=>by
  simp only [List.map_cons,frzL,frz_iv hs fuel (by simpa using hl)]
  rfl
theorem fin9 {T:List AVal}{H:Heap}{hs:List Int}{n:Nat}(hT:T[2]? =some (.sref 1 1 0 n))(hT3:T[3]? =some (.d (num 0)))(hH:H[1]? =some (.cells (hs.map iv)))(hn:n=hs.length)(hl:hs.length≤20):finRun a9 0 (some (.ret,⟨T,H⟩))=some (.tuple [.d (ints hs),.d (num 0)],[]):=by
 subst hn
 have hr:rd H 1 0 (hs.length * 1)=some (hs.map iv):=by
  simp only [rd,hH,List.length_map,Nat.mul_one,Nat.zero_add,Nat.le_refl,if_true,List.drop_zero]
  rw [List.take_of_length_le (by simp)]
 have hz:=frz_iv (H:=H) (n:=0) hs 998 (by omega)
 rw [Nat.mul_one] at hr
 have hd:=datas_iv hs
 have e:ints hs= .slice hs.length (hs.map num):=by
  simp only [ints,encL]
  congr 1
  clear hr hz hd hH hl hT
  induction hs<;>simp_all
 have hv:resVals T H a9.results=some [.sref 1 1 0 hs.length,.d (num 0)]:=by
  show resVals T H [.slot 2,.slot 3]=_
  simp only [resVals,resVal,hT,hT3]
 have hp:a9.promote=false:=rfl
 have hfz:frzL H 0 1000 [AVal.tuple [.sref 1 1 0 hs.length,.d (num 0)]]=some [.tuple [.d (.slice hs.length (hs.map num)),.d (num 0)]]:=by
  simp [frzL,hr,hz,hd]
 simp only [finRun,hv,finish,hp,Bool.false_eq_true,if_false,oneOrTuple,List.map_cons,List.map_nil,AVal.asD]
 rw [hfz,e]
 rfl
theorem bnd_iv:∀ hs:List Int,bndL (hs.map iv)=0
 |[]=>rfl
 |h::hs=>by
  have:=bnd_iv hs
  simp only [List.map_cons,bndL,AVal.bnd,iv,Nat.zero_max] at this ⊢
  exact this
theorem iv2_bnd (p:Pl)(hs:List Int):bndO [planO p,.cells (hs.map iv)]≤2:=by
 have h1:=bnd_iv hs
 have e1:bndL [AVal.d p.x,.d p.y,.d (stps p.st)]=0:=rfl
 simp only [planO,bndO,AObj.bnd,h1,e1]
 decide
theorem iv3_bnd (p:Pl)(hs:List Int)(y:PStep):bndO [planO p,.cells (hs.map iv),.cells ((encPS y).map .d)]≤3:=by
 have h1:=bnd_iv hs
 have e1:bndL [AVal.d p.x,.d p.y,.d (stps p.st)]=0:=rfl
 have e2:bndL ((encPS y).map AVal.d)=0:=rfl
 simp only [planO,bndO,AObj.bnd,h1,e1,e2]
 decide
set_option maxHeartbeats 8000000 in
theorem pf9 (p:Pl)(hp:Few1 p):Pf A0 9 [planD p] (.tuple [.d (ints (heightsR p.st).2),.d (num (heightsR p.st).1)]):=by
 refine Pf.run [planD p,.any,.any,.any,.any,.any,.any,.any,.any,.any] rfl rfl rfl rfl ?_
 have hl:=hp.st
 have p1:=pf11 p hp
 repeat' (first|refine cl (p1) ?_|refine gx ?_|fail)
 refine tb (!eqB (ordR p.st).1 0) (fun h1=> ?_) (fun h1=> ?_)
 ·have e:heightsR p.st=((ordR p.st).1,[]):=by
   unfold heightsR
   rw [if_neg]
   intro h
   rw [h] at h1
   simp [eqB_eq] at h1
  rw [e]
  refine gr ?_
  exact ⟨_,rfl,rfl⟩
 ·have h0:(ordR p.st).1=0:=by simpa [eqB_eq] using h1
  have hO:=ordR_ok h0
  have e:heightsR p.st=(0,heightsI p.st (ordR p.st).2):=by
   unfold heightsR
   rw [if_pos h0]
  rw [e]
  generalize (ordR p.st).2=o at hO
  have hm:makeN 1 [.d (num 0)] (.d (num p.st.length)) (.d (num p.st.length))=some p.st.length:=by
   show (if (p.st.length:Int)=p.st.length∧(0:Int)≤p.st.length∧(p.st.length:Int)≤1000000∧0<1∧[AVal.d (num 0)].length=1 then some (p.st.length:Int).toNat else none)=_
   rw [if_pos ⟨rfl,by omega,by omega,by decide,rfl⟩,Int.toNat_natCast]
  have hH2:([planO p]++[.cells (List.replicate p.st.length [AVal.d (num 0)]).flatten]:Heap)=[planO p,.cells ((List.replicate p.st.length 0).map iv)]:=by
   simp [iv]
  have hol:=hO.len
  repeat' (first|refine mks hm hH2 (h2:= ?_)|refine gx ?_|fail)
  refine Ex.loopC (fun k T H=>∃ (j:Nat) (e:Int) (hs:List Int),e=(j:Int) - 1∧T=[.any,.ptr 0 0,.any,.any,.d (ints o),.any,.sref 1 1 0 p.st.length,.d (num e),.any,.any]∧H=[planO p,.cells (hs.map iv)]∧j=k∧j≤o.length∧hs=(o.drop j).reverse.foldl (bumpL p.st) (List.replicate p.st.length 0)) ?_ (k:=o.length) ⟨o.length,_,_,by rfl,rfl,rfl,rfl,Nat.le_refl _,by simp⟩
  rintro k _ _ ⟨j,e,hs,he,rfl,rfl,rfl,hjo,hhs⟩
  have hsl:hs.length=p.st.length:=by rw [hhs,bumpL_len];simp
  refine Ex.seq ?_
  refine tb (leB 0 e) (fun h2=> ?_) (fun h2=> ?_)
  ·have h3:=leB_t h2
   have hx:0≤e∧e<o.length:=by omega
   have hxn:e.toNat<o.length:=by omega
   obtain ⟨x,hxe⟩:∃ x,nth o e.toNat=x:=⟨_,rfl⟩
   have hxm:0≤x∧x<p.st.length:=by rw [← hxe];exact hO.mem _ (nth_mem hxn)
   have hxs:x.toNat<p.st.length:=by omega
   have haf:=hO.af x.toNat hxs
   have hal:=hp.af x.toNat hxs
   refine Ex.skip ?_
   refine Ex.seq ?_
   refine Ex.block ?_
   refine Ex.seq ?_
   refine Ex.region ?_
   refine Rn.w 2 [planO p,.cells (hs.map iv),.dead] [.slot 8] rfl rfl rfl rfl ?_
   repeat' (first|refine wfp ?_|refine wlp ?_|refine wm ?_|refine wiz hx ?_|(rw [hxe];refine wld ?_)|refine wiz hxm ?_|refine wle ?_|refine wal (h2:= ?_)|refine ws (h2:= ?_)|refine wn ?_|fail)
   obtain ⟨y,hy⟩:∃ y,nth p.st x.toNat=y:=⟨_,rfl⟩
   rw [hy] at haf hal ⊢
   refine gr ?_
   refine Ex.loopC (fun k T H=>∃ (q:Nat) (gs:List Int),T=[.any,.ptr 0 0,.any,.any,.d (ints o),.any,.sref 1 1 0 p.st.length,.d (num e),.ptr 2 0,.d (num q)]∧H=[planO p,.cells (gs.map iv),.cells ((encPS y).map .d)]∧q+k=y.af.length∧gs=(y.af.take q).foldl (fun hs k=>bumpI x.toNat hs k.toNat) hs) ?_ (k:=y.af.length) ⟨0,_,rfl,rfl,by simp,by simp⟩
   rintro k _ _ ⟨q,gs,rfl,rfl,hk,hgs⟩
   have hgl:gs.length=p.st.length:=by rw [hgs,bumpF_len,hsl]
   refine Ex.seq ?_
   refine tb (ltB q y.af.length) (fun h4=> ?_) (fun h4=> ?_)
   ·have h5:=ltB_t h4
    have ham:0≤nth y.af q∧nth y.af q<p.st.length:=haf _ (nth_mem (by omega))
    have hxm' :0≤nth o e.toNat∧nth o e.toNat<p.st.length:=by rw [hxe];exact hxm
    have r1:=rd_iv (H:=[planO p,.cells (gs.map iv),.cells ((encPS y).map .d)]) (id:=1) (a:=(nth y.af q).toNat) (hs:=gs) rfl (by omega)
    have r2:=rd_iv (H:=[planO p,.cells (gs.map iv),.cells ((encPS y).map .d)]) (id:=1) (a:=(nth o e.toNat).toNat) (hs:=gs) rfl (by omega)
    have w1:∀ v,wr [planO p,.cells (gs.map iv),.cells ((encPS y).map .d)] 1 (0+(nth y.af q).toNat * 1) [iv v]=some [planO p,.cells ((gs.set (nth y.af q).toNat v).map iv),.cells ((encPS y).map .d)]:=fun v=>by
     rw [wr_iv rfl (by omega)]
     rfl
    repeat' (first|refine ixo ham ?_|refine ixo hxm' ?_|refine lpx r1 rfl ?_|refine lpx r2 rfl ?_|refine adw (c:=gs[(nth o e.toNat).toNat]?.getD 0) ?_|refine sox (w1 _) (h2:= ?_)|refine gx ?_|fail)
    exact ⟨k - 1,by omega,_,_,clean_of (Nat.le_of_ble_eq_true rfl) (iv3_bnd p _ y),q+1,_,rfl,rfl,by omega,by rw [take_nth (by omega),List.foldl_append,← hgs,← hxe];rfl⟩
   ·have h5:=ltB_f h4
    rw [List.take_of_length_le (by omega)] at hgs
    have hg2:gs=(o.drop (j - 1)).reverse.foldl (bumpL p.st) (List.replicate p.st.length 0):=by
     have e1:e.toNat=j - 1:=by omega
     rw [drop_nth (show j - 1<o.length by omega),show j - 1+1=j by omega,List.reverse_cons,List.foldl_append,← hhs,← e1,hxe,hgs]
     simp only [List.foldl_cons,List.foldl_nil,bumpL,hy]
    refine gr ?_
    exact ⟨j - 1,by omega,_,_,clean_of (Nat.le_of_ble_eq_true rfl) (iv2_bnd p _),j - 1,e - 1,gs,by omega,rfl,rfl,rfl,by omega,hg2⟩
  ·have h3:=leB_f h2
   obtain rfl:j=0:=by omega
   refine gr ?_
   exact ⟨_,fin9 (hs:=hs) rfl rfl rfl hsl.symm (by omega),by rw [hhs];rfl⟩
end Go.Proofs.YtjnkccpijofgiaaGreat
