/-
  The program's checker: indexes, sketches, caches, releases, streams, backups.; The program's checker: releases and backups.
  (Put together by a small program out of several texts; blanks left out to keep the folder small.)
-/
import Derived.Test.YtkmclibmmlgogaaGreatD7
import Derived.Test.YtkmclibmmlgogaaGreatB6
set_option linter.unusedVariables false
set_option linter.unusedSimpArgs false
namespace Go.Proofs.YtkmclibmmlgogaaGreat
open Go.Abs Go.Abs.S
attribute [local irreducible] Rx Ry Rn Ex Pf
def fi158 (x:Str):List Str→Nat→Int
 |[],_=> -1
 |y::r,i=>if seB x y then i else fi158 x r (i+1)
theorem fi158_any (x:Str):∀ (l:List Str) (i:Nat),leB 0 (fi158 x l i)=l.any fun y=>seB y x
 |[],i=>by simp [fi158,leB_eq]
 |y::r,i=>by
  have h1:=fi158_any x r (i+1)
  have h2:seB x y=seB y x:=by simp only [seB_eq];rw [Bool.eq_iff_iff];simp only [beq_iff_eq];exact eq_comm
  simp only [fi158,List.any_cons,h2]
  cases h3:seB y x with
  |true=>simp [leB_eq]
  |false=>simpa using h1
theorem pf158 (xs:List Str)(x:Str)(hx:xs.length≤100000):Pf A 158 [.d (encL encS xs),.d (.str x)] (.d (num (fi158 x xs 0))):=by
 refine Pf.run [.d (encL encS xs),.d (.str x),.any,.any,.any,.any] rfl rfl rfl rfl ?_
 repeat' (first|refine gx ?_|fail)
 refine Ex.loopS (fun k T H=>∃ (i:Nat) (v w:AVal),T=[.d (encL encS xs),.d (.str x),v,w,.d (num xs.length),.d (num i)]∧H=[]∧i+k=xs.length∧fi158 x xs 0=fi158 x (xs.drop i) i) (by rintro _ _ _ ⟨_,_,_,_,rfl,_⟩;rfl) ?_ (k:=xs.length) ⟨0,_,_,rfl,rfl,by simp,by simp⟩
 rintro k _ _ ⟨i,v,w,rfl,rfl,hk,hi⟩
 refine Ex.nT ?_
 repeat' (first|refine gx ?_|refine Ex.condP ?_|refine Ex.condN ?_|refine Ex.cond rfl (fun ht=> ?_) (fun ht=> ?_)|refine Ex.test (Rn.text ?_)|refine Ex.test (Rn.draw ?_)|refine ⟨_,rfl,fun ht=> ?_,fun ht=> ?_⟩|refine ⟨_,rfl,?_⟩|fail)
 ·have h1:=ltB_t ‹ltB i _=true›
  rw [drop_nth (by omega)] at hi
  simp [hi,fi158,ht,oneOrTuple,num]
 ·have h1:=ltB_t ‹ltB i _=true›
  rw [drop_nth (by omega)] at hi
  exact ⟨k - 1,by omega,i+1,_,_,rfl,rfl,by omega,by simp [hi,fi158,ht]⟩
 ·have h1:=ltB_f ht
  rw [List.drop_of_length_le (by omega)] at hi
  simp [hi,fi158,oneOrTuple,num]
theorem pf123 (xs:List Str)(x:Str)(hx:xs.length≤100000):Pf A 123 [.d (encL encS xs),.d (.str x)] (.d (.bool (xs.any fun y=>seB y x))):=by
 rw [← fi158_any x xs 0]
 refine Pf.run [.d (encL encS xs),.d (.str x),.any] rfl rfl rfl rfl ?_
 repeat' (first|refine cl (pf158 xs x hx) ?_|refine gx ?_|fail)
 exact ⟨_,rfl,rfl⟩
def fi82 (x:Int):List Int→Nat→Int
 |[],_=> -1
 |y::r,i=>if eqB x y then i else fi82 x r (i+1)
theorem fi82_any (x:Int):∀ (l:List Int) (i:Nat),leB 0 (fi82 x l i)=l.any fun y=>eqB y x
 |[],i=>by simp [fi82,leB_eq]
 |y::r,i=>by
  have h1:=fi82_any x r (i+1)
  have h2:eqB x y=eqB y x:=by simp only [eqB_eq];rw [Bool.eq_iff_iff];simp only [beq_iff_eq];exact eq_comm
  simp only [fi82,List.any_cons,h2]
  cases h3:eqB y x with
  |true=>simp [leB_eq]
  |false=>simpa using h1
theorem pf82 (xs:List Int)(x:Int)(hx:xs.length≤100000):Pf A 82 [.d (encL (fun n=>[num n]) xs),.d (num x)] (.d (num (fi82 x xs 0))):=by
 refine Pf.run [.d (encL (fun n=>[num n]) xs),.d (num x),.any,.any,.any,.any] rfl rfl rfl rfl ?_
 repeat' (first|refine gx ?_|fail)
 refine Ex.loopS (fun k T H=>∃ (i:Nat) (v w:AVal),T=[.d (encL (fun n=>[num n]) xs),.d (num x),v,w,.d (num xs.length),.d (num i)]∧H=[]∧i+k=xs.length∧fi82 x xs 0=fi82 x (xs.drop i) i) (by rintro _ _ _ ⟨_,_,_,_,rfl,_⟩;rfl) ?_ (k:=xs.length) ⟨0,_,_,rfl,rfl,by simp,by simp⟩
 rintro k _ _ ⟨i,v,w,rfl,rfl,hk,hi⟩
 refine Ex.nT ?_
 repeat' (first|refine gx ?_|refine Ex.condP ?_|refine Ex.condN ?_|refine Ex.cond rfl (fun ht=> ?_) (fun ht=> ?_)|refine Ex.test (Rn.text ?_)|refine Ex.test (Rn.draw ?_)|refine ⟨_,rfl,fun ht=> ?_,fun ht=> ?_⟩|refine ⟨_,rfl,?_⟩|fail)
 ·have h1:=ltB_t ‹ltB i _=true›
  rw [drop_nth (by omega)] at hi
  simp [hi,fi82,ht,oneOrTuple,num]
 ·have h1:=ltB_t ‹ltB i _=true›
  rw [drop_nth (by omega)] at hi
  exact ⟨k - 1,by omega,i+1,_,_,rfl,rfl,by omega,by simp [hi,fi82,ht]⟩
 ·have h1:=ltB_f ht
  rw [List.drop_of_length_le (by omega)] at hi
  simp [hi,fi82,oneOrTuple,num]
theorem pf49 (xs:List Int)(x:Int)(hx:xs.length≤100000):Pf A 49 [.d (encL (fun n=>[num n]) xs),.d (num x)] (.d (.bool (xs.any fun y=>eqB y x))):=by
 rw [← fi82_any x xs 0]
 refine Pf.run [.d (encL (fun n=>[num n]) xs),.d (num x),.any] rfl rfl rfl rfl ?_
 repeat' (first|refine cl (pf82 xs x hx) ?_|refine gx ?_|fail)
 exact ⟨_,rfl,rfl⟩
def idxM (ss:List Sto)(ds:List Str)(x:Idx):Int:=if !eqB (declE ds x.name) 0 then declE ds x.name else if !eqB (srcP ss x.source x.col).2 0 then (srcP ss x.source x.col).2 else if !eqB (srcP ss x.source x.col).1 2 then 5 else 0
def sktM (ss:List Sto)(ds:List Str)(x:Skt):Int:=if !eqB (declE ds x.name) 0 then declE ds x.name else if !eqB (srcP ss x.source x.col).2 0 then (srcP ss x.source x.col).2
 else if !eqB x.kind 0&& !eqB x.kind 1&& !eqB x.kind 2 then 1
 else if !withinB x.width 1 1024|| !withinB x.depth 1 8||(eqB x.kind 2&& !eqB x.depth 1)||ltB 1024 (x.width * x.depth) then 1 else 0
def cchM (ss:List Sto)(ds:List Str)(x:Cch):Int:=if !eqB (declE ds x.name) 0 then declE ds x.name else if !eqB (srcP ss x.source x.col).2 0 then (srcP ss x.source x.col).2 else if !withinB x.ttl 1 1048576 then 1 else 0
def stmM (c:Cat)(ss:List Sto)(ds:List Str)(x:Stm):Int:=if !eqB (declE ds x.name) 0 then declE ds x.name else if !isTabB c ss x.table then 7 else 0
set_option maxHeartbeats 4000000 in
theorem pm70 (c:Cat)(ds:List Str)(ss:List Sto)(i:Nat)(hi:i<c.idxs.length)(hty:∀ k,k<ss.length→(nth ss k).2.2.length≤100000):Pm A 70 [.ptr 4 0,.d (num i)] (HH c ds ss) lW (.d (num (idxM ss ds (nth c.idxs i)))) (HH c (declD ds (nth c.idxs i).name) ss):=by
 have p108:=pm108 c ds ss (nth c.idxs i).name
 have p121:=pm121 c (declD ds (nth c.idxs i).name) ss (nth c.idxs i).source (nth c.idxs i).col hty
 suffices h:Pq A 70 [.ptr 4 0,.d (num i)] (HH c ds ss) lW fun v H1=>v= .d (num (idxM ss ds (nth c.idxs i)))∧H1=HH c (declD ds (nth c.idxs i).name) ss by
  obtain ⟨v,H1,⟨rfl,rfl⟩,h⟩:=h;exact h
 generalize hx:nth c.idxs i=x at *
 unfold HH at *
 refine Pq.run (b:=5) [.ptr 4 0,.d (num i),.any,.any,.any,.any,.any] rfl rfl rfl rfl rfl ?_
 repeat' (first|refine gx ?_|fail)
 rw [hx]
 repeat' (first|refine c0 p108 rfl (h2:= ?_)|refine gx ?_|fail)
 refine tb (!eqB (declE ds x.name) 0) (fun h1=> ?_) (fun h1=> ?_)
 ·repeat' (first|refine gx ?_|fail)
  exact ⟨_,_,rfl,by unfold idxM;rw [h1];rfl,rfl⟩
 repeat' (first|refine c1 p121 rfl ?_|refine gx ?_|fail)
 refine tb (!eqB (srcP ss x.source x.col).2 0) (fun h2=> ?_) (fun h2=> ?_)
 ·repeat' (first|refine gx ?_|fail)
  exact ⟨_,_,rfl,by unfold idxM;rw [h1,h2];rfl,rfl⟩
 repeat' (first|refine gx ?_|fail)
 refine tb (!eqB (srcP ss x.source x.col).1 2) (fun h3=> ?_) (fun h3=> ?_)
 ·repeat' (first|refine gx ?_|fail)
  exact ⟨_,_,rfl,by unfold idxM;rw [h1,h2,h3];rfl,rfl⟩
 ·repeat' (first|refine gx ?_|fail)
  exact ⟨_,_,rfl,by unfold idxM;rw [h1,h2,h3];rfl,rfl⟩
set_option maxHeartbeats 4000000 in
theorem pm72 (c:Cat)(ds:List Str)(ss:List Sto)(i:Nat)(hi:i<c.cchs.length)(hty:∀ k,k<ss.length→(nth ss k).2.2.length≤100000):Pm A 72 [.ptr 4 0,.d (num i)] (HH c ds ss) lW (.d (num (cchM ss ds (nth c.cchs i)))) (HH c (declD ds (nth c.cchs i).name) ss):=by
 have p108:=pm108 c ds ss (nth c.cchs i).name
 have p121:=pm121 c (declD ds (nth c.cchs i).name) ss (nth c.cchs i).source (nth c.cchs i).col hty
 suffices h:Pq A 72 [.ptr 4 0,.d (num i)] (HH c ds ss) lW fun v H1=>v= .d (num (cchM ss ds (nth c.cchs i)))∧H1=HH c (declD ds (nth c.cchs i).name) ss by
  obtain ⟨v,H1,⟨rfl,rfl⟩,h⟩:=h;exact h
 generalize hx:nth c.cchs i=x at *
 unfold HH at *
 refine Pq.run (b:=5) [.ptr 4 0,.d (num i),.any,.any,.any,.any] rfl rfl rfl rfl rfl ?_
 repeat' (first|refine gx ?_|fail)
 rw [hx]
 repeat' (first|refine c0 p108 rfl (h2:= ?_)|refine gx ?_|fail)
 refine tb (!eqB (declE ds x.name) 0) (fun h1=> ?_) (fun h1=> ?_)
 ·repeat' (first|refine gx ?_|fail)
  exact ⟨_,_,rfl,by unfold cchM;rw [h1];rfl,rfl⟩
 repeat' (first|refine c1 p121 rfl ?_|refine gx ?_|fail)
 refine tb (!eqB (srcP ss x.source x.col).2 0) (fun h2=> ?_) (fun h2=> ?_)
 ·repeat' (first|refine gx ?_|fail)
  exact ⟨_,_,rfl,by unfold cchM;rw [h1,h2];rfl,rfl⟩
 repeat' (first|refine gx ?_|fail)
 first|refine Ex.testB (!withinB x.ttl 1 1048576) (Rn.text ?_) (fun h3=> ?_) (fun h3=> ?_)|refine Ex.testB (!withinB x.ttl 1 1048576) (Rn.draw ?_) (fun h3=> ?_) (fun h3=> ?_)
 ·repeat' (first|refine cl (pf109 _ _ _) ?_|refine gx ?_|refine fk (h1:=fun hw=> ?_) (h2:=fun hw=> ?_)|refine fpk (h1:=fun hw=> ?_) (h2:=fun hw=> ?_)|refine ⟨rfl,rfl,_,rfl,?_⟩|refine ⟨rfl,rfl⟩|fail)
  all_goals first|(simp [*,oneOrTuple];done)|(simp_all [oneOrTuple];done)|(simp_all [oneOrTuple,ltB_eq,leB_eq,eqB_eq,seB_eq];done)|(simp_all [oneOrTuple,ltB_eq,leB_eq,eqB_eq,seB_eq]<;>omega)
 ·repeat' (first|refine gx ?_|fail)
  exact ⟨_,_,rfl,by unfold cchM;rw [h1,h2,h3];rfl,rfl⟩
 ·repeat' (first|refine gx ?_|fail)
  exact ⟨_,_,rfl,by unfold cchM;rw [h1,h2,h3];rfl,rfl⟩
set_option maxHeartbeats 4000000 in
theorem pm74 (c:Cat)(ds:List Str)(ss:List Sto)(i:Nat)(hi:i<c.stms.length)(hc:c.tabs.length≤1000):Pm A 74 [.ptr 4 0,.d (num i)] (HH c ds ss) lW (.d (num (stmM c ss ds (nth c.stms i)))) (HH c (declD ds (nth c.stms i).name) ss):=by
 have p108:=pm108 c ds ss (nth c.stms i).name
 have p122:=pm122 c (declD ds (nth c.stms i).name) ss (nth c.stms i).table hc
 suffices h:Pq A 74 [.ptr 4 0,.d (num i)] (HH c ds ss) lW fun v H1=>v= .d (num (stmM c ss ds (nth c.stms i)))∧H1=HH c (declD ds (nth c.stms i).name) ss by
  obtain ⟨v,H1,⟨rfl,rfl⟩,h⟩:=h;exact h
 generalize hx:nth c.stms i=x at *
 unfold HH at *
 refine Pq.run (b:=5) [.ptr 4 0,.d (num i),.any,.any,.any] rfl rfl rfl rfl rfl ?_
 repeat' (first|refine gx ?_|fail)
 rw [hx]
 repeat' (first|refine c0 p108 rfl (h2:= ?_)|refine gx ?_|fail)
 refine tb (!eqB (declE ds x.name) 0) (fun h1=> ?_) (fun h1=> ?_)
 ·repeat' (first|refine gx ?_|fail)
  exact ⟨_,_,rfl,by unfold stmM;rw [h1];rfl,rfl⟩
 repeat' (first|refine gx ?_|fail)
 first|refine Ex.testB (!isTabB c ss x.table) (Rn.text ?_) (fun h2=> ?_) (fun h2=> ?_)|refine Ex.testB (!isTabB c ss x.table) (Rn.draw ?_) (fun h2=> ?_) (fun h2=> ?_)
 ·repeat' (first|refine c1 p122 rfl ?_|refine gx ?_|refine fk (h1:=fun hw=> ?_) (h2:=fun hw=> ?_)|refine fpk (h1:=fun hw=> ?_) (h2:=fun hw=> ?_)|refine ⟨rfl,rfl,_,rfl,?_⟩|refine ⟨rfl,rfl⟩|fail)
  all_goals first|(simp [*,oneOrTuple];done)|(simp_all [oneOrTuple];done)|(simp_all [oneOrTuple,ltB_eq,leB_eq,eqB_eq,seB_eq];done)|(simp_all [oneOrTuple,ltB_eq,leB_eq,eqB_eq,seB_eq]<;>omega)
 ·repeat' (first|refine gx ?_|fail)
  exact ⟨_,_,rfl,by unfold stmM;rw [h1,h2];rfl,rfl⟩
 ·repeat' (first|refine gx ?_|fail)
  exact ⟨_,_,rfl,by unfold stmM;rw [h1,h2];rfl,rfl⟩
set_option maxHeartbeats 4000000 in
theorem pm71 (c:Cat)(ds:List Str)(ss:List Sto)(i:Nat)(hi:i<c.skts.length)(hty:∀ k,k<ss.length→(nth ss k).2.2.length≤100000):Pm A 71 [.ptr 4 0,.d (num i)] (HH c ds ss) lW (.d (num (sktM ss ds (nth c.skts i)))) (HH c (declD ds (nth c.skts i).name) ss):=by
 have p108:=pm108 c ds ss (nth c.skts i).name
 have p121:=pm121 c (declD ds (nth c.skts i).name) ss (nth c.skts i).source (nth c.skts i).col hty
 suffices h:Pq A 71 [.ptr 4 0,.d (num i)] (HH c ds ss) lW fun v H1=>v= .d (num (sktM ss ds (nth c.skts i)))∧H1=HH c (declD ds (nth c.skts i).name) ss by
  obtain ⟨v,H1,⟨rfl,rfl⟩,h⟩:=h;exact h
 generalize hx:nth c.skts i=x at *
 unfold HH at *
 refine Pq.run (b:=5) [.ptr 4 0,.d (num i),.any,.any,.any,.any] rfl rfl rfl rfl rfl ?_
 repeat' (first|refine gx ?_|fail)
 rw [hx]
 repeat' (first|refine c0 p108 rfl (h2:= ?_)|refine gx ?_|fail)
 refine tb (!eqB (declE ds x.name) 0) (fun h1=> ?_) (fun h1=> ?_)
 ·repeat' (first|refine gx ?_|fail)
  exact ⟨_,_,rfl,by unfold sktM;rw [h1];rfl,rfl⟩
 repeat' (first|refine c1 p121 rfl ?_|refine gx ?_|fail)
 refine tb (!eqB (srcP ss x.source x.col).2 0) (fun h2=> ?_) (fun h2=> ?_)
 ·repeat' (first|refine gx ?_|fail)
  exact ⟨_,_,rfl,by unfold sktM;rw [h1,h2];rfl,rfl⟩
 repeat' (first|refine gx ?_|fail)
 refine tb (!eqB x.kind 0&& !eqB x.kind 1&& !eqB x.kind 2) (fun h3=> ?_) (fun h3=> ?_)
 ·repeat' (first|refine gx ?_|fail)
  exact ⟨_,_,rfl,by unfold sktM;rw [h1,h2,h3];rfl,rfl⟩
 repeat' (first|refine gx ?_|fail)
 cases hW:withinB x.width 1 1024 with
 |false =>
  first|refine Ex.testB (true) (Rn.text ?_) (fun h4=> ?_) (fun h4=> ?_)|refine Ex.testB (true) (Rn.draw ?_) (fun h4=> ?_) (fun h4=> ?_)
  ·repeat' (first|refine cl (pf109 _ _ _) ?_|refine gx ?_|refine fk (h1:=fun hw=> ?_) (h2:=fun hw=> ?_)|refine fpk (h1:=fun hw=> ?_) (h2:=fun hw=> ?_)|refine ⟨rfl,rfl,_,rfl,?_⟩|refine ⟨rfl,rfl⟩|fail)
   all_goals first|(simp [*,oneOrTuple,hW];done)|(simp_all [oneOrTuple,hW];done)|(simp_all [oneOrTuple,hW,ltB_eq,leB_eq,eqB_eq,seB_eq];done)|(simp_all [oneOrTuple,hW,ltB_eq,leB_eq,eqB_eq,seB_eq]<;>omega)
  ·repeat' (first|refine gx ?_|fail)
   exact ⟨_,_,rfl,by unfold sktM;rw [h1,h2,h3,hW];rfl,rfl⟩
  ·cases h4
 |true =>
 cases hD:withinB x.depth 1 8 with
 |false =>
  first|refine Ex.testB (true) (Rn.text ?_) (fun h4=> ?_) (fun h4=> ?_)|refine Ex.testB (true) (Rn.draw ?_) (fun h4=> ?_) (fun h4=> ?_)
  ·repeat' (first|refine cl (pf109 _ _ _) ?_|refine gx ?_|refine fk (h1:=fun hw=> ?_) (h2:=fun hw=> ?_)|refine fpk (h1:=fun hw=> ?_) (h2:=fun hw=> ?_)|refine ⟨rfl,rfl,_,rfl,?_⟩|refine ⟨rfl,rfl⟩|fail)
   all_goals first|(simp [*,oneOrTuple,hW,hD];done)|(simp_all [oneOrTuple,hW,hD];done)|(simp_all [oneOrTuple,hW,hD,ltB_eq,leB_eq,eqB_eq,seB_eq];done)|(simp_all [oneOrTuple,hW,hD,ltB_eq,leB_eq,eqB_eq,seB_eq]<;>omega)
  ·repeat' (first|refine gx ?_|fail)
   exact ⟨_,_,rfl,by unfold sktM;rw [h1,h2,h3,hW,hD];rfl,rfl⟩
  ·cases h4
 |true =>
 have hm: -9223372036854775808≤x.width * x.depth∧x.width * x.depth<9223372036854775808:=by
  simp [withinB,leB_eq] at hW hD
  have m1:=Int.mul_le_mul hW.2 hD.2 (by omega) (by omega)
  have m2:=Int.mul_nonneg (a:=x.width) (b:=x.depth) (by omega) (by omega)
  omega
 first|refine Ex.testB (!withinB x.width 1 1024|| !withinB x.depth 1 8||(eqB x.kind 2&& !eqB x.depth 1)||ltB 1024 (x.width * x.depth)) (Rn.text ?_) (fun h4=> ?_) (fun h4=> ?_)|refine Ex.testB (!withinB x.width 1 1024|| !withinB x.depth 1 8||(eqB x.kind 2&& !eqB x.depth 1)||ltB 1024 (x.width * x.depth)) (Rn.draw ?_) (fun h4=> ?_) (fun h4=> ?_)
 ·repeat' (first|refine cl (pf109 _ _ _) ?_|refine mu (h0:=hm) ?_|refine gx ?_|refine fk (h1:=fun hw=> ?_) (h2:=fun hw=> ?_)|refine fpk (h1:=fun hw=> ?_) (h2:=fun hw=> ?_)|refine ⟨rfl,rfl,_,rfl,?_⟩|refine ⟨rfl,rfl⟩|fail)
  all_goals first|(simp [*,oneOrTuple,hW,hD];done)|(simp_all [oneOrTuple,hW,hD];done)|(simp_all [oneOrTuple,hW,hD,ltB_eq,leB_eq,eqB_eq,seB_eq];done)|(simp_all [oneOrTuple,hW,hD,ltB_eq,leB_eq,eqB_eq,seB_eq]<;>omega)
 ·repeat' (first|refine gx ?_|fail)
  exact ⟨_,_,rfl,by unfold sktM;rw [h1,h2,h3,h4];rfl,rfl⟩
 ·repeat' (first|refine gx ?_|fail)
  exact ⟨_,_,rfl,by unfold sktM;rw [h1,h2,h3,h4];rfl,rfl⟩
end Go.Proofs.YtkmclibmmlgogaaGreat
namespace Go.Proofs.YtkmclibmmlgogaaGreat
open Go.Abs Go.Abs.S
attribute [local irreducible] Rx Ry Rn Ex Pf
def rlV (c:Cat)(ss:List Sto)(x:Rls):Vw:=nth c.views (idxS x.source (ss.map (·.1)) 0 - c.tabs.length).toNat
def rlsM (c:Cat)(ss:List Sto)(ds:List Str)(x:Rls):Int:=if !eqB (declE ds x.name) 0 then declE ds x.name else if ltB (idxS x.source (ss.map (·.1)) 0 - c.tabs.length) 0 then 7
 else if !eqB (rlV c ss x).kind 1|| !eqB (nth (rlV c ss x).aggs 0).func 0|| !withinB x.thr 1 1024 then 1 else 0
def bkL (c:Cat)(ss:List Sto):List Str→List Str→Int
 |_,[]=>0
 |seen,t::r=>if !isTabB c ss t then 7 else if seen.any fun y=>seB y t then 4 else bkL c ss (seen++[t]) r
def bkM (c:Cat)(ss:List Sto)(ds:List Str)(x:Bkp):Int:=if !eqB (declE ds x.name) 0 then declE ds x.name else if eqB x.tables.length 0|| !withinB x.keep 1 1048576 then 1 else bkL c ss [] x.tables
set_option maxHeartbeats 4000000 in
theorem pm73 (c:Cat)(ds:List Str)(ss:List Sto)(i:Nat)(hi:i<c.rlss.length)(hc:c.tabs.length≤1000)(hss:ss.length≤c.tabs.length+c.views.length)(hsv:c.views.length≤1000)(hg:∀ k,k<c.views.length→(nth c.views k).kind≠1∨0<(nth c.views k).aggs.length):Pm A 73 [.ptr 4 0,.d (num i)] (HH c ds ss) lW (.d (num (rlsM c ss ds (nth c.rlss i)))) (HH c (declD ds (nth c.rlss i).name) ss):=by
 have p108:=pm108 c ds ss (nth c.rlss i).name
 have p61:=pm61 c (declD ds (nth c.rlss i).name) ss (nth c.rlss i).source
 have b1:=idx_ss ss (nth c.rlss i).source
 suffices h:Pq A 73 [.ptr 4 0,.d (num i)] (HH c ds ss) lW fun v H1=>v= .d (num (rlsM c ss ds (nth c.rlss i)))∧H1=HH c (declD ds (nth c.rlss i).name) ss by
  obtain ⟨v,H1,⟨rfl,rfl⟩,h⟩:=h;exact h
 generalize hx:nth c.rlss i=x at *
 unfold HH at *
 refine Pq.run (b:=5) [.ptr 4 0,.d (num i),.any,.any,.any,.any,.any] rfl rfl rfl rfl rfl ?_
 repeat' (first|refine gx ?_|fail)
 rw [hx]
 repeat' (first|refine c0 p108 rfl (h2:= ?_)|refine gx ?_|fail)
 refine tb (!eqB (declE ds x.name) 0) (fun h1=> ?_) (fun h1=> ?_)
 ·repeat' (first|refine gx ?_|fail)
  exact ⟨_,_,rfl,by unfold rlsM;rw [h1];rfl,rfl⟩
 repeat' (first|refine c1 p61 rfl ?_|refine gx ?_|fail)
 refine tb (ltB (idxS x.source (ss.map (·.1)) 0 - c.tabs.length) 0) (fun h2=> ?_) (fun h2=> ?_)
 ·repeat' (first|refine gx ?_|fail)
  exact ⟨_,_,rfl,by unfold rlsM;rw [h1,h2];rfl,rfl⟩
 have h3:=ltB_f h2
 have h4:=hg (idxS x.source (ss.map (·.1)) 0 - c.tabs.length).toNat (by omega)
 have hrv:nth c.views (idxS x.source (ss.map (·.1)) 0 - c.tabs.length).toNat=rlV c ss x:=rfl
 repeat' (first|refine gx ?_|fail)
 rw [hrv] at h4 ⊢
 repeat' (first|refine gx ?_|fail)
 first|refine Ex.testB (!eqB (rlV c ss x).kind 1|| !eqB (nth (rlV c ss x).aggs 0).func 0|| !withinB x.thr 1 1024) (Rn.text ?_) (fun h5=> ?_) (fun h5=> ?_)|refine Ex.testB (!eqB (rlV c ss x).kind 1|| !eqB (nth (rlV c ss x).aggs 0).func 0|| !withinB x.thr 1 1024) (Rn.draw ?_) (fun h5=> ?_) (fun h5=> ?_)
 ·repeat' (first|refine cl (pf109 _ _ _) ?_|refine gx ?_|refine fk (h1:=fun hw=> ?_) (h2:=fun hw=> ?_)|refine fpk (h1:=fun hw=> ?_) (h2:=fun hw=> ?_)|refine ⟨rfl,rfl,_,rfl,?_⟩|refine ⟨rfl,rfl⟩|fail)
  all_goals first|(simp [*,oneOrTuple];done)|(simp_all [oneOrTuple];done)|(simp_all [oneOrTuple,ltB_eq,leB_eq,eqB_eq,seB_eq];done)|(simp_all [oneOrTuple,ltB_eq,leB_eq,eqB_eq,seB_eq]<;>omega)
 ·repeat' (first|refine gx ?_|fail)
  exact ⟨_,_,rfl,by unfold rlsM;rw [h1,h2,h5];rfl,rfl⟩
 ·repeat' (first|refine gx ?_|fail)
  exact ⟨_,_,rfl,by unfold rlsM;rw [h1,h2,h5];rfl,rfl⟩
set_option maxHeartbeats 4000000 in
theorem pm75 (c:Cat)(ds:List Str)(ss:List Sto)(i:Nat)(hi:i<c.bkps.length)(hc:c.tabs.length≤1000)(hx1:(nth c.bkps i).tables.length≤1000):Pm A 75 [.ptr 4 0,.d (num i)] (HH c ds ss) lW (.d (num (bkM c ss ds (nth c.bkps i)))) (HH c (declD ds (nth c.bkps i).name) ss):=by
 have p108:=pm108 c ds ss (nth c.bkps i).name
 have p122:∀ s,Pm A 122 [.ptr 4 0,.d (.str s)] (HH c (declD ds (nth c.bkps i).name) ss) lR (.d (.bool (isTabB c ss s))) (HH c (declD ds (nth c.bkps i).name) ss):=fun s=>pm122 c (declD ds (nth c.bkps i).name) ss s hc
 suffices h:Pq A 75 [.ptr 4 0,.d (num i)] (HH c ds ss) lW fun v H1=>v= .d (num (bkM c ss ds (nth c.bkps i)))∧H1=HH c (declD ds (nth c.bkps i).name) ss by
  obtain ⟨v,H1,⟨rfl,rfl⟩,h⟩:=h;exact h
 generalize hx:nth c.bkps i=x at *
 unfold HH at *
 refine Pq.run (b:=5) [.ptr 4 0,.d (num i),.any,.any,.any,.any,.any,.any,.any,.any] rfl rfl rfl rfl rfl ?_
 repeat' (first|refine gx ?_|fail)
 rw [hx]
 repeat' (first|refine c0 p108 rfl (h2:= ?_)|refine gx ?_|fail)
 refine tb (!eqB (declE ds x.name) 0) (fun h1=> ?_) (fun h1=> ?_)
 ·repeat' (first|refine gx ?_|fail)
  exact ⟨_,_,rfl,by unfold bkM;rw [h1];rfl,rfl⟩
 repeat' (first|refine gx ?_|fail)
 first|refine Ex.testB (eqB x.tables.length 0|| !withinB x.keep 1 1048576) (Rn.text ?_) (fun h2=> ?_) (fun h2=> ?_)|refine Ex.testB (eqB x.tables.length 0|| !withinB x.keep 1 1048576) (Rn.draw ?_) (fun h2=> ?_) (fun h2=> ?_)
 ·repeat' (first|refine cl (pf109 _ _ _) ?_|refine gx ?_|refine fk (h1:=fun hw=> ?_) (h2:=fun hw=> ?_)|refine fpk (h1:=fun hw=> ?_) (h2:=fun hw=> ?_)|refine ⟨rfl,rfl,_,rfl,?_⟩|refine ⟨rfl,rfl⟩|fail)
  all_goals first|(simp [*,oneOrTuple];done)|(simp_all [oneOrTuple];done)|(simp_all [oneOrTuple,ltB_eq,leB_eq,eqB_eq,seB_eq];done)|(simp_all [oneOrTuple,ltB_eq,leB_eq,eqB_eq,seB_eq]<;>omega)
 ·repeat' (first|refine gx ?_|fail)
  exact ⟨_,_,rfl,by unfold bkM;rw [h1,h2];rfl,rfl⟩
 repeat' (first|refine gx ?_|fail)
 refine Ex.loopS (fun k T H=>∃ (j:Nat) (w1 w2 w4 w5 w6:AVal),T=[.ptr 4 0,w1,w2,.ptr 5 0,w4,w5,w6,.d (encL (fun s=>[.str s]) x.tables),.d (num x.tables.length),.d (num j)]∧H=[.cells (c.enc.map .d),.cells (c.enc.map .d),.map (dmap (declD ds x.name)),.map (nmap (ss.map (·.1)) 0),.cells (c.enc.map .d++[.map 2,.map 3,ownL 2 encSt ss]),.cells (x.enc.map .d)]∧j+k=x.tables.length∧bkM c ss ds x=bkL c ss (x.tables.take j) (x.tables.drop j)) (by rintro _ _ _ ⟨_,_,_,_,_,_,_,rfl,_⟩;rfl) ?_ (k:=x.tables.length) ⟨0,_,_,_,_,_,rfl,rfl,by simp,by simp [bkM,h1,h2]⟩
 rintro k _ _ ⟨j,w1,w2,w4,w5,w6,rfl,rfl,hk,hj⟩
 refine Ex.nT ?_
 refine Ex.seq ?_
 refine tb (ltB j x.tables.length) (fun h3=> ?_) (fun h3=> ?_)
 ·have h4:=ltB_t h3
  rw [drop_nth (by omega)] at hj
  have q122:=p122 (nth x.tables j)
  have q123:=pf123 (x.tables.take j) (nth x.tables j) (by simp;omega)
  repeat' (first|refine gx ?_|fail)
  first|refine Ex.testB (!isTabB c ss (nth x.tables j)) (Rn.text ?_) (fun h5=> ?_) (fun h5=> ?_)|refine Ex.testB (!isTabB c ss (nth x.tables j)) (Rn.draw ?_) (fun h5=> ?_) (fun h5=> ?_)
  ·repeat' (first|refine c1 q122 rfl ?_|refine gx ?_|refine fk (h1:=fun hw=> ?_) (h2:=fun hw=> ?_)|refine fpk (h1:=fun hw=> ?_) (h2:=fun hw=> ?_)|refine ⟨rfl,rfl,_,rfl,?_⟩|refine ⟨rfl,rfl⟩|fail)
   all_goals first|(simp [*,oneOrTuple];done)|(simp_all [oneOrTuple];done)|(simp_all [oneOrTuple,ltB_eq,leB_eq,eqB_eq,seB_eq];done)|(simp_all [oneOrTuple,ltB_eq,leB_eq,eqB_eq,seB_eq]<;>omega)
  ·repeat' (first|refine gx ?_|fail)
   exact ⟨_,_,rfl,by rw [hj];unfold bkL;rw [h5];rfl,rfl⟩
  repeat' (first|refine gx ?_|fail)
  first|refine Ex.testB ((x.tables.take j).any fun y=>seB y (nth x.tables j)) (Rn.text ?_) (fun h6=> ?_) (fun h6=> ?_)|refine Ex.testB ((x.tables.take j).any fun y=>seB y (nth x.tables j)) (Rn.draw ?_) (fun h6=> ?_) (fun h6=> ?_)
  ·repeat' (first|refine cl (q123) ?_|refine gx ?_|refine fk (h1:=fun hw=> ?_) (h2:=fun hw=> ?_)|refine fpk (h1:=fun hw=> ?_) (h2:=fun hw=> ?_)|refine ⟨rfl,rfl,_,rfl,?_⟩|refine ⟨rfl,rfl⟩|fail)
   all_goals first|(simp [*,oneOrTuple];done)|(simp_all [oneOrTuple];done)|(simp_all [oneOrTuple,ltB_eq,leB_eq,eqB_eq,seB_eq];done)|(simp_all [oneOrTuple,ltB_eq,leB_eq,eqB_eq,seB_eq]<;>omega)
  ·repeat' (first|refine gx ?_|fail)
   exact ⟨_,_,rfl,by rw [hj];unfold bkL;rw [h5,h6];rfl,rfl⟩
  ·repeat' (first|refine gx ?_|fail)
   refine ⟨k - 1,by omega,j+1,_,_,_,_,_,rfl,rfl,by omega,?_⟩
   rw [hj,take_nth (by omega)]
   simp only [bkL,h5,h6,Bool.false_eq_true,if_false]
 ·have h4:=ltB_f h3
  rw [List.drop_of_length_le (by omega)] at hj
  repeat' (first|refine gx ?_|fail)
  exact ⟨_,_,rfl,by rw [hj];rfl,rfl⟩
end Go.Proofs.YtkmclibmmlgogaaGreat
