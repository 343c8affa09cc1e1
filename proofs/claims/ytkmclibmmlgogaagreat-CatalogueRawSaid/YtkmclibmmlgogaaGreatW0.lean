/-
  The program's checker: its small methods.; The program's checker: declare, add, source.; The program's checker: indexes, sketches, caches, releases, streams, backups.; The program's columns of tables: names twice; lists collected.; The program's columns of tables; tables.; The program's tables.; The program's checker: releases and backups.
  (Put together by a small program out of several texts; blanks left out to keep the folder small.)
-/
import Derived.Test.YtkmclibmmlgogaaGreatD7
import Derived.Test.YtkmclibmmlgogaaGreatB6
import Derived.Test.YtkmclibmmlgogaaGreatD8
import Derived.Test.YtkmclibmmlgogaaGreatD9
set_option linter.unusedVariables false
set_option linter.unusedSimpArgs false
namespace Go.Proofs.YtkmclibmmlgogaaGreat.Two
open Go.Abs Go.Abs.S
attribute [local irreducible] Rx Ry Rn Ex Pf
structure XO where
 x:Int
abbrev xo [Inhabited XO]:AObj:= .cells [.d (num (default:XO).x)]
variable [Inhabited XO]
def HH (c:Cat)(ds:List Str)(ss:List Sto):Heap :=
 [.cells (c.enc.map .d),xo,.cells (c.enc.map .d),.map (dmap ds),.map (nmap (ss.map (·.1)) 0),.cells (c.enc.map .d++[.map 3,.map 4,ownL 2 encSt ss])]
def lW:Lim:=⟨0,0,6,6⟩
def lR:Lim:=⟨0,6,6,6⟩
theorem pm61 (c:Cat)(ds:List Str)(ss:List Sto)(s:Str):Pm A 61 [.ptr 5 0,.d (.str s)] (HH c ds ss) lR (.d (num (idxS s (ss.map (·.1)) 0))) (HH c ds ss):=by
 have hf:=nmap_find s (ss.map (·.1)) 0
 suffices h:Pq A 61 [.ptr 5 0,.d (.str s)] (HH c ds ss) lR fun v H1=>v= .d (num (idxS s (ss.map (·.1)) 0))∧H1=HH c ds ss by
  obtain ⟨v,H1,⟨rfl,rfl⟩,h⟩:=h;exact h
 unfold HH
 refine Pq.run (b:=6) [.ptr 5 0,.d (.str s),.any,.any,.any] rfl rfl rfl rfl rfl ?_
 cases h1:ltB (idxS s (ss.map (·.1)) 0) 0 with
 |true =>
  rw [h1,if_pos rfl] at hf
  have h2:=ltB_t h1
  have h3:idxS s (ss.map (·.1)) 0= -1:=by rcases idxS_bound s (ss.map (·.1)) 0 with h|h<;>omega
  repeat' (first|refine lk2 hf rfl rfl ?_|refine gx ?_|fail)
  refine tb (false) (fun h4=> ?_) (fun h4=> ?_)
  ·cases h4
  repeat' (first|refine gx ?_|fail)
  exact ⟨_,_,rfl,by rw [h3];rfl,rfl⟩
 |false =>
  rw [h1,if_neg (by simp)] at hf
  repeat' (first|refine lk2 hf rfl rfl ?_|refine gx ?_|fail)
  refine tb (true) (fun h4=> ?_) (fun h4=> ?_)
  ·repeat' (first|refine gx ?_|fail)
   exact ⟨_,_,rfl,rfl,rfl⟩
  ·cases h4
theorem pm38 (c:Cat)(ds:List Str)(ss:List Sto)(n:Int):Pm A 38 [.ptr 5 0,.d (num n)] (HH c ds ss) lR (.d (.bool (leB 0 n&&ltB n ss.length))) (HH c ds ss):=by
 suffices h:Pq A 38 [.ptr 5 0,.d (num n)] (HH c ds ss) lR fun v H1=>v= .d (.bool (leB 0 n&&ltB n ss.length))∧H1=HH c ds ss by
  obtain ⟨v,H1,⟨rfl,rfl⟩,h⟩:=h;exact h
 unfold HH
 refine Pq.run (b:=6) [.ptr 5 0,.d (num n),.any] rfl rfl rfl rfl rfl ?_
 repeat' (first|refine gx ?_|refine fk (h1:=fun hw=> ?_) (h2:=fun hw=> ?_)|refine fpk (h1:=fun hw=> ?_) (h2:=fun hw=> ?_)|refine Ex.condP ?_|refine Ex.condN ?_|refine Ex.cond rfl (fun ht=> ?_) (fun ht=> ?_)|refine Ex.test (Rn.text ?_)|refine Ex.test (Rn.draw ?_)|refine ⟨_,rfl,fun ht=> ?_,fun ht=> ?_⟩|refine ⟨_,rfl,?_⟩|fail)
 all_goals exact ⟨_,_,rfl,by simp [*,oneOrTuple],rfl⟩
theorem pm122 (c:Cat)(ds:List Str)(ss:List Sto)(s:Str)(hc:c.tabs.length≤1000):Pm A 122 [.ptr 5 0,.d (.str s)] (HH c ds ss) lR (.d (.bool (isTabB c ss s))) (HH c ds ss):=by
 have p1:=pm61 c ds ss s
 suffices h:Pq A 122 [.ptr 5 0,.d (.str s)] (HH c ds ss) lR fun v H1=>v= .d (.bool (isTabB c ss s))∧H1=HH c ds ss by
  obtain ⟨v,H1,⟨rfl,rfl⟩,h⟩:=h;exact h
 unfold HH at p1 ⊢
 refine Pq.run (b:=6) [.ptr 5 0,.d (.str s),.any] rfl rfl rfl rfl rfl ?_
 repeat' (first|refine c1 p1 rfl ?_|refine cl (pf109 _ _ _) ?_|refine gx ?_|fail)
 exact ⟨_,_,rfl,rfl,rfl⟩
end Go.Proofs.YtkmclibmmlgogaaGreat.Two
namespace Go.Proofs.YtkmclibmmlgogaaGreat.Two
open Go.Abs Go.Abs.S
attribute [local irreducible] Rx Ry Rn Ex Pf
variable [Inhabited XO]
theorem pm108 (c:Cat)(ds:List Str)(ss:List Sto)(s:Str):Pm A 108 [.ptr 5 0,.d (.str s)] (HH c ds ss) lW (.d (num (declE ds s))) (HH c (declD ds s) ss):=by
 have hf:=dmap_find s ds
 suffices h:Pq A 108 [.ptr 5 0,.d (.str s)] (HH c ds ss) lW fun v H1=>v= .d (num (declE ds s))∧H1=HH c (declD ds s) ss by
  obtain ⟨v,H1,⟨rfl,rfl⟩,h⟩:=h;exact h
 unfold HH
 refine Pq.run (b:=6) [.ptr 5 0,.d (.str s),.any] rfl rfl rfl rfl rfl ?_
 have h10:eqB 3 0=false:=by simp [eqB_eq]
 have h11:eqB 4 0=false:=by simp [eqB_eq]
 have h12:eqB 0 0=true:=by simp [eqB_eq]
 repeat' (first|refine gx ?_|fail)
 first|refine Ex.testB (!isNameB s) (Rn.text ?_) (fun h1=> ?_) (fun h1=> ?_)|refine Ex.testB (!isNameB s) (Rn.draw ?_) (fun h1=> ?_) (fun h1=> ?_)
 ·repeat' (first|refine cl (pf146 _) ?_|refine gx ?_|refine fk (h1:=fun hw=> ?_) (h2:=fun hw=> ?_)|refine fpk (h1:=fun hw=> ?_) (h2:=fun hw=> ?_)|refine ⟨rfl,rfl,_,rfl,?_⟩|refine ⟨rfl,rfl⟩|fail)
  all_goals first|(simp [*,oneOrTuple];done)|(simp_all [oneOrTuple];done)|(simp_all [oneOrTuple,ltB_eq,leB_eq,eqB_eq,seB_eq];done)|(simp_all [oneOrTuple,ltB_eq,leB_eq,eqB_eq,seB_eq]<;>omega)
 ·repeat' (first|refine gx ?_|fail)
  have e1:declE ds s=3:=by unfold declE;rw [h1];rfl
  exact ⟨_,_,rfl,by rw [e1];rfl,by unfold declD;rw [e1,h10];rfl⟩
 cases h2:ds.any fun y=>seB y s with
 |true =>
  rw [h2,if_pos rfl] at hf
  have e1:declE ds s=4:=by unfold declE;rw [h1,h2];rfl
  first|refine Ex.testB (true) (Rn.text ?_) (fun h3=> ?_) (fun h3=> ?_)|refine Ex.testB (true) (Rn.draw ?_) (fun h3=> ?_) (fun h3=> ?_)
  ·repeat' (first|refine lk1 hf rfl ?_|refine gx ?_|refine fk (h1:=fun hw=> ?_) (h2:=fun hw=> ?_)|refine fpk (h1:=fun hw=> ?_) (h2:=fun hw=> ?_)|refine ⟨rfl,rfl,_,rfl,?_⟩|refine ⟨rfl,rfl⟩|fail)
   all_goals first|(simp [*,oneOrTuple];done)|(simp_all [oneOrTuple];done)|(simp_all [oneOrTuple,ltB_eq,leB_eq,eqB_eq,seB_eq];done)|(simp_all [oneOrTuple,ltB_eq,leB_eq,eqB_eq,seB_eq]<;>omega)
  ·repeat' (first|refine gx ?_|fail)
   exact ⟨_,_,rfl,by rw [e1];rfl,by unfold declD;rw [e1,h11];rfl⟩
  ·cases h3
 |false =>
  rw [h2,if_neg (by simp)] at hf
  have e1:declE ds s=0:=by unfold declE;rw [h1,h2];rfl
  have hk:Data.keyEq .s (.str s) (.str s)=some true:=by simp [Data.keyEq]
  first|refine Ex.testB (false) (Rn.text ?_) (fun h3=> ?_) (fun h3=> ?_)|refine Ex.testB (false) (Rn.draw ?_) (fun h3=> ?_) (fun h3=> ?_)
  ·repeat' (first|refine lk1 hf rfl ?_|refine gx ?_|refine fk (h1:=fun hw=> ?_) (h2:=fun hw=> ?_)|refine fpk (h1:=fun hw=> ?_) (h2:=fun hw=> ?_)|refine ⟨rfl,rfl,_,rfl,?_⟩|refine ⟨rfl,rfl⟩|fail)
   all_goals first|(simp [*,oneOrTuple];done)|(simp_all [oneOrTuple];done)|(simp_all [oneOrTuple,ltB_eq,leB_eq,eqB_eq,seB_eq];done)|(simp_all [oneOrTuple,ltB_eq,leB_eq,eqB_eq,seB_eq]<;>omega)
  ·cases h3
  repeat' (first|refine mp (dmap_put s ds h2) hk (h2:= ?_)|refine gx ?_|fail)
  exact ⟨_,_,rfl,by rw [e1];rfl,by unfold declD;rw [e1,h12];rfl⟩
theorem pm111 (c:Cat)(ds:List Str)(ss:List Sto)(s:Str)(nm:List Str)(ty:List Int)(hs:((ss.map (·.1)).any fun y=>seB y s)=false)(hl:ss.length≤1000) :
  Pm A 111 [.ptr 5 0,.d (.str s),cols2 nm ty] (HH c ds ss) lW (.tuple []) (HH c ds (ss++[(s,nm,ty)])):=by
 have hput:=nmap_put s (ss.map (·.1)) 0 hs
 rw [List.length_map,Nat.zero_add] at hput
 have hk:Data.keyEq .s (.str s) (.str s)=some true:=by simp [Data.keyEq]
 have hr:roomFor (ss.length+1) 48=true:=by simp only [roomFor,decide_eq_true_eq];omega
 suffices h:Pq A 111 [.ptr 5 0,.d (.str s),cols2 nm ty] (HH c ds ss) lW fun v H1=>v= .tuple []∧H1=HH c ds (ss++[(s,nm,ty)]) by
  obtain ⟨v,H1,⟨rfl,rfl⟩,h⟩:=h;exact h
 unfold HH
 refine Pq.run (b:=6) [.ptr 5 0,.d (.str s),cols2 nm ty,.any] rfl rfl rfl rfl rfl ?_
 repeat' (first|refine mp hput hk (h2:= ?_)|refine o2 ?_|refine ac2 (a:=(s,nm,ty)) (xs:=ss) (enc:=encSt) hr rfl (h2:= ?_)|refine soO (h2:= ?_)|refine gx ?_|fail)
 refine ⟨_,_,rfl,rfl,?_⟩
 have e:((ss++[(s,nm,ty)]).map (·.1))=ss.map (·.1)++[s]:=by simp
 rw [e]
 rfl
theorem pm121 (c:Cat)(ds:List Str)(ss:List Sto)(s:Str)(col:Int)(hty:∀ k,k<ss.length→(nth ss k).2.2.length≤100000):Pm A 121 [.ptr 5 0,.d (.str s),.d (num col)] (HH c ds ss) lR (.tuple [.d (num (srcP ss s col).1),.d (num (srcP ss s col).2)]) (HH c ds ss):=by
 have p1:=pm61 c ds ss s
 have b1:=idx_ss ss s
 suffices h:Pq A 121 [.ptr 5 0,.d (.str s),.d (num col)] (HH c ds ss) lR fun v H1=>v= .tuple [.d (num (srcP ss s col).1),.d (num (srcP ss s col).2)]∧H1=HH c ds ss by
  obtain ⟨v,H1,⟨rfl,rfl⟩,h⟩:=h;exact h
 unfold HH at p1 ⊢
 refine Pq.run (b:=6) [.ptr 5 0,.d (.str s),.d (num col),.any,.any,.any,.any] rfl rfl rfl rfl rfl ?_
 repeat' (first|refine c1 p1 rfl ?_|refine gx ?_|fail)
 refine tb (ltB (idxS s (ss.map (·.1)) 0) 0) (fun h1=> ?_) (fun h1=> ?_)
 ·repeat' (first|refine gx ?_|fail)
  exact ⟨_,_,rfl,by unfold srcP;rw [h1];rfl,rfl⟩
 have h2:=ltB_f h1
 have h3:=hty (idxS s (ss.map (·.1)) 0).toNat (by omega)
 repeat' (first|refine gx ?_|fail)
 first|refine Ex.testB (!withinB col 0 ((nth ss (idxS s (ss.map (·.1)) 0).toNat).2.2.length - 1)) (Rn.text ?_) (fun h4=> ?_) (fun h4=> ?_)|refine Ex.testB (!withinB col 0 ((nth ss (idxS s (ss.map (·.1)) 0).toNat).2.2.length - 1)) (Rn.draw ?_) (fun h4=> ?_) (fun h4=> ?_)
 ·repeat' (first|refine cl (pf109 _ _ _) ?_|refine gx ?_|refine fk (h1:=fun hw=> ?_) (h2:=fun hw=> ?_)|refine fpk (h1:=fun hw=> ?_) (h2:=fun hw=> ?_)|refine ⟨rfl,rfl,_,rfl,?_⟩|refine ⟨rfl,rfl⟩|fail)
  all_goals first|(simp [*,oneOrTuple];done)|(simp_all [oneOrTuple];done)|(simp_all [oneOrTuple,ltB_eq,leB_eq,eqB_eq,seB_eq];done)|(simp_all [oneOrTuple,ltB_eq,leB_eq,eqB_eq,seB_eq]<;>omega)
 ·repeat' (first|refine gx ?_|fail)
  exact ⟨_,_,rfl,by unfold srcP;rw [h1,h4];rfl,rfl⟩
 have h5:=h4
 simp [withinB,leB_eq] at h5
 repeat' (first|refine gx ?_|fail)
 exact ⟨_,_,rfl,by unfold srcP;rw [h1,h4];rfl,rfl⟩
end Go.Proofs.YtkmclibmmlgogaaGreat.Two
namespace Go.Proofs.YtkmclibmmlgogaaGreat.Two
open Go.Abs Go.Abs.S
attribute [local irreducible] Rx Ry Rn Ex Pf
variable [Inhabited XO]
set_option maxHeartbeats 4000000 in
theorem pm70 (c:Cat)(ds:List Str)(ss:List Sto)(i:Nat)(hi:i<c.idxs.length)(hty:∀ k,k<ss.length→(nth ss k).2.2.length≤100000):Pm A 70 [.ptr 5 0,.d (num i)] (HH c ds ss) lW (.d (num (idxM ss ds (nth c.idxs i)))) (HH c (declD ds (nth c.idxs i).name) ss):=by
 have p108:=pm108 c ds ss (nth c.idxs i).name
 have p121:=pm121 c (declD ds (nth c.idxs i).name) ss (nth c.idxs i).source (nth c.idxs i).col hty
 suffices h:Pq A 70 [.ptr 5 0,.d (num i)] (HH c ds ss) lW fun v H1=>v= .d (num (idxM ss ds (nth c.idxs i)))∧H1=HH c (declD ds (nth c.idxs i).name) ss by
  obtain ⟨v,H1,⟨rfl,rfl⟩,h⟩:=h;exact h
 generalize hx:nth c.idxs i=x at *
 unfold HH at *
 refine Pq.run (b:=6) [.ptr 5 0,.d (num i),.any,.any,.any,.any,.any] rfl rfl rfl rfl rfl ?_
 repeat' (first|refine gx ?_|fail)
 rw [hx]
 repeat' (first|refine c0 p108 rfl (h2:= ?_)|refine gx ?_|fail)
 refine tb (!eqB (declE ds x.name) 0) (fun h1=> ?_) (fun h1=> ?_)
 ·repeat' (first|refine gx ?_|fail)
  exact ⟨_,_,rfl,by unfold idxM;rw [h1];rfl,rfl⟩
 repeat' (first|refine c1 p121 rfl ?_|refine gx ?_|fail)
 refine tb (!eqB (srcP ss x.source x.col).2 0) (fun h2=> ?_) (fun h2=> ?_)
 ·repeat' (first|refine gx ?_|fail)
  exact ⟨_,_,rfl,by unfold idxM;rw [h1,h2];rfl,rfl⟩
 repeat' (first|refine gx ?_|fail)
 refine tb (!eqB (srcP ss x.source x.col).1 2) (fun h3=> ?_) (fun h3=> ?_)
 ·repeat' (first|refine gx ?_|fail)
  exact ⟨_,_,rfl,by unfold idxM;rw [h1,h2,h3];rfl,rfl⟩
 ·repeat' (first|refine gx ?_|fail)
  exact ⟨_,_,rfl,by unfold idxM;rw [h1,h2,h3];rfl,rfl⟩
set_option maxHeartbeats 4000000 in
theorem pm72 (c:Cat)(ds:List Str)(ss:List Sto)(i:Nat)(hi:i<c.cchs.length)(hty:∀ k,k<ss.length→(nth ss k).2.2.length≤100000):Pm A 72 [.ptr 5 0,.d (num i)] (HH c ds ss) lW (.d (num (cchM ss ds (nth c.cchs i)))) (HH c (declD ds (nth c.cchs i).name) ss):=by
 have p108:=pm108 c ds ss (nth c.cchs i).name
 have p121:=pm121 c (declD ds (nth c.cchs i).name) ss (nth c.cchs i).source (nth c.cchs i).col hty
 suffices h:Pq A 72 [.ptr 5 0,.d (num i)] (HH c ds ss) lW fun v H1=>v= .d (num (cchM ss ds (nth c.cchs i)))∧H1=HH c (declD ds (nth c.cchs i).name) ss by
  obtain ⟨v,H1,⟨rfl,rfl⟩,h⟩:=h;exact h
 generalize hx:nth c.cchs i=x at *
 unfold HH at *
 refine Pq.run (b:=6) [.ptr 5 0,.d (num i),.any,.any,.any,.any] rfl rfl rfl rfl rfl ?_
 repeat' (first|refine gx ?_|fail)
 rw [hx]
 repeat' (first|refine c0 p108 rfl (h2:= ?_)|refine gx ?_|fail)
 refine tb (!eqB (declE ds x.name) 0) (fun h1=> ?_) (fun h1=> ?_)
 ·repeat' (first|refine gx ?_|fail)
  exact ⟨_,_,rfl,by unfold cchM;rw [h1];rfl,rfl⟩
 repeat' (first|refine c1 p121 rfl ?_|refine gx ?_|fail)
 refine tb (!eqB (srcP ss x.source x.col).2 0) (fun h2=> ?_) (fun h2=> ?_)
 ·repeat' (first|refine gx ?_|fail)
  exact ⟨_,_,rfl,by unfold cchM;rw [h1,h2];rfl,rfl⟩
 repeat' (first|refine gx ?_|fail)
 first|refine Ex.testB (!withinB x.ttl 1 1048576) (Rn.text ?_) (fun h3=> ?_) (fun h3=> ?_)|refine Ex.testB (!withinB x.ttl 1 1048576) (Rn.draw ?_) (fun h3=> ?_) (fun h3=> ?_)
 ·repeat' (first|refine cl (pf109 _ _ _) ?_|refine gx ?_|refine fk (h1:=fun hw=> ?_) (h2:=fun hw=> ?_)|refine fpk (h1:=fun hw=> ?_) (h2:=fun hw=> ?_)|refine ⟨rfl,rfl,_,rfl,?_⟩|refine ⟨rfl,rfl⟩|fail)
  all_goals first|(simp [*,oneOrTuple];done)|(simp_all [oneOrTuple];done)|(simp_all [oneOrTuple,ltB_eq,leB_eq,eqB_eq,seB_eq];done)|(simp_all [oneOrTuple,ltB_eq,leB_eq,eqB_eq,seB_eq]<;>omega)
 ·repeat' (first|refine gx ?_|fail)
  exact ⟨_,_,rfl,by unfold cchM;rw [h1,h2,h3];rfl,rfl⟩
 ·repeat' (first|refine gx ?_|fail)
  exact ⟨_,_,rfl,by unfold cchM;rw [h1,h2,h3];rfl,rfl⟩
set_option maxHeartbeats 4000000 in
theorem pm74 (c:Cat)(ds:List Str)(ss:List Sto)(i:Nat)(hi:i<c.stms.length)(hc:c.tabs.length≤1000):Pm A 74 [.ptr 5 0,.d (num i)] (HH c ds ss) lW (.d (num (stmM c ss ds (nth c.stms i)))) (HH c (declD ds (nth c.stms i).name) ss):=by
 have p108:=pm108 c ds ss (nth c.stms i).name
 have p122:=pm122 c (declD ds (nth c.stms i).name) ss (nth c.stms i).table hc
 suffices h:Pq A 74 [.ptr 5 0,.d (num i)] (HH c ds ss) lW fun v H1=>v= .d (num (stmM c ss ds (nth c.stms i)))∧H1=HH c (declD ds (nth c.stms i).name) ss by
  obtain ⟨v,H1,⟨rfl,rfl⟩,h⟩:=h;exact h
 generalize hx:nth c.stms i=x at *
 unfold HH at *
 refine Pq.run (b:=6) [.ptr 5 0,.d (num i),.any,.any,.any] rfl rfl rfl rfl rfl ?_
 repeat' (first|refine gx ?_|fail)
 rw [hx]
 repeat' (first|refine c0 p108 rfl (h2:= ?_)|refine gx ?_|fail)
 refine tb (!eqB (declE ds x.name) 0) (fun h1=> ?_) (fun h1=> ?_)
 ·repeat' (first|refine gx ?_|fail)
  exact ⟨_,_,rfl,by unfold stmM;rw [h1];rfl,rfl⟩
 repeat' (first|refine gx ?_|fail)
 first|refine Ex.testB (!isTabB c ss x.table) (Rn.text ?_) (fun h2=> ?_) (fun h2=> ?_)|refine Ex.testB (!isTabB c ss x.table) (Rn.draw ?_) (fun h2=> ?_) (fun h2=> ?_)
 ·repeat' (first|refine c1 p122 rfl ?_|refine gx ?_|refine fk (h1:=fun hw=> ?_) (h2:=fun hw=> ?_)|refine fpk (h1:=fun hw=> ?_) (h2:=fun hw=> ?_)|refine ⟨rfl,rfl,_,rfl,?_⟩|refine ⟨rfl,rfl⟩|fail)
  all_goals first|(simp [*,oneOrTuple];done)|(simp_all [oneOrTuple];done)|(simp_all [oneOrTuple,ltB_eq,leB_eq,eqB_eq,seB_eq];done)|(simp_all [oneOrTuple,ltB_eq,leB_eq,eqB_eq,seB_eq]<;>omega)
 ·repeat' (first|refine gx ?_|fail)
  exact ⟨_,_,rfl,by unfold stmM;rw [h1,h2];rfl,rfl⟩
 ·repeat' (first|refine gx ?_|fail)
  exact ⟨_,_,rfl,by unfold stmM;rw [h1,h2];rfl,rfl⟩
set_option maxHeartbeats 4000000 in
theorem pm71 (c:Cat)(ds:List Str)(ss:List Sto)(i:Nat)(hi:i<c.skts.length)(hty:∀ k,k<ss.length→(nth ss k).2.2.length≤100000):Pm A 71 [.ptr 5 0,.d (num i)] (HH c ds ss) lW (.d (num (sktM ss ds (nth c.skts i)))) (HH c (declD ds (nth c.skts i).name) ss):=by
 have p108:=pm108 c ds ss (nth c.skts i).name
 have p121:=pm121 c (declD ds (nth c.skts i).name) ss (nth c.skts i).source (nth c.skts i).col hty
 suffices h:Pq A 71 [.ptr 5 0,.d (num i)] (HH c ds ss) lW fun v H1=>v= .d (num (sktM ss ds (nth c.skts i)))∧H1=HH c (declD ds (nth c.skts i).name) ss by
  obtain ⟨v,H1,⟨rfl,rfl⟩,h⟩:=h;exact h
 generalize hx:nth c.skts i=x at *
 unfold HH at *
 refine Pq.run (b:=6) [.ptr 5 0,.d (num i),.any,.any,.any,.any] rfl rfl rfl rfl rfl ?_
 repeat' (first|refine gx ?_|fail)
 rw [hx]
 repeat' (first|refine c0 p108 rfl (h2:= ?_)|refine gx ?_|fail)
 refine tb (!eqB (declE ds x.name) 0) (fun h1=> ?_) (fun h1=> ?_)
 ·repeat' (first|refine gx ?_|fail)
  exact ⟨_,_,rfl,by unfold sktM;rw [h1];rfl,rfl⟩
 repeat' (first|refine c1 p121 rfl ?_|refine gx ?_|fail)
 refine tb (!eqB (srcP ss x.source x.col).2 0) (fun h2=> ?_) (fun h2=> ?_)
 ·repeat' (first|refine gx ?_|fail)
  exact ⟨_,_,rfl,by unfold sktM;rw [h1,h2];rfl,rfl⟩
 repeat' (first|refine gx ?_|fail)
 refine tb (!eqB x.kind 0&& !eqB x.kind 1&& !eqB x.kind 2) (fun h3=> ?_) (fun h3=> ?_)
 ·repeat' (first|refine gx ?_|fail)
  exact ⟨_,_,rfl,by unfold sktM;rw [h1,h2,h3];rfl,rfl⟩
 repeat' (first|refine gx ?_|fail)
 cases hW:withinB x.width 1 1024 with
 |false =>
  first|refine Ex.testB (true) (Rn.text ?_) (fun h4=> ?_) (fun h4=> ?_)|refine Ex.testB (true) (Rn.draw ?_) (fun h4=> ?_) (fun h4=> ?_)
  ·repeat' (first|refine cl (pf109 _ _ _) ?_|refine gx ?_|refine fk (h1:=fun hw=> ?_) (h2:=fun hw=> ?_)|refine fpk (h1:=fun hw=> ?_) (h2:=fun hw=> ?_)|refine ⟨rfl,rfl,_,rfl,?_⟩|refine ⟨rfl,rfl⟩|fail)
   all_goals first|(simp [*,oneOrTuple,hW];done)|(simp_all [oneOrTuple,hW];done)|(simp_all [oneOrTuple,hW,ltB_eq,leB_eq,eqB_eq,seB_eq];done)|(simp_all [oneOrTuple,hW,ltB_eq,leB_eq,eqB_eq,seB_eq]<;>omega)
  ·repeat' (first|refine gx ?_|fail)
   exact ⟨_,_,rfl,by unfold sktM;rw [h1,h2,h3,hW];rfl,rfl⟩
  ·cases h4
 |true =>
 cases hD:withinB x.depth 1 8 with
 |false =>
  first|refine Ex.testB (true) (Rn.text ?_) (fun h4=> ?_) (fun h4=> ?_)|refine Ex.testB (true) (Rn.draw ?_) (fun h4=> ?_) (fun h4=> ?_)
  ·repeat' (first|refine cl (pf109 _ _ _) ?_|refine gx ?_|refine fk (h1:=fun hw=> ?_) (h2:=fun hw=> ?_)|refine fpk (h1:=fun hw=> ?_) (h2:=fun hw=> ?_)|refine ⟨rfl,rfl,_,rfl,?_⟩|refine ⟨rfl,rfl⟩|fail)
   all_goals first|(simp [*,oneOrTuple,hW,hD];done)|(simp_all [oneOrTuple,hW,hD];done)|(simp_all [oneOrTuple,hW,hD,ltB_eq,leB_eq,eqB_eq,seB_eq];done)|(simp_all [oneOrTuple,hW,hD,ltB_eq,leB_eq,eqB_eq,seB_eq]<;>omega)
  ·repeat' (first|refine gx ?_|fail)
   exact ⟨_,_,rfl,by unfold sktM;rw [h1,h2,h3,hW,hD];rfl,rfl⟩
  ·cases h4
 |true =>
 have hm: -9223372036854775808≤x.width * x.depth∧x.width * x.depth<9223372036854775808:=by
  simp [withinB,leB_eq] at hW hD
  have m1:=Int.mul_le_mul hW.2 hD.2 (by omega) (by omega)
  have m2:=Int.mul_nonneg (a:=x.width) (b:=x.depth) (by omega) (by omega)
  omega
 first|refine Ex.testB (!withinB x.width 1 1024|| !withinB x.depth 1 8||(eqB x.kind 2&& !eqB x.depth 1)||ltB 1024 (x.width * x.depth)) (Rn.text ?_) (fun h4=> ?_) (fun h4=> ?_)|refine Ex.testB (!withinB x.width 1 1024|| !withinB x.depth 1 8||(eqB x.kind 2&& !eqB x.depth 1)||ltB 1024 (x.width * x.depth)) (Rn.draw ?_) (fun h4=> ?_) (fun h4=> ?_)
 ·repeat' (first|refine cl (pf109 _ _ _) ?_|refine mu (h0:=hm) ?_|refine gx ?_|refine fk (h1:=fun hw=> ?_) (h2:=fun hw=> ?_)|refine fpk (h1:=fun hw=> ?_) (h2:=fun hw=> ?_)|refine ⟨rfl,rfl,_,rfl,?_⟩|refine ⟨rfl,rfl⟩|fail)
  all_goals first|(simp [*,oneOrTuple,hW,hD];done)|(simp_all [oneOrTuple,hW,hD];done)|(simp_all [oneOrTuple,hW,hD,ltB_eq,leB_eq,eqB_eq,seB_eq];done)|(simp_all [oneOrTuple,hW,hD,ltB_eq,leB_eq,eqB_eq,seB_eq]<;>omega)
 ·repeat' (first|refine gx ?_|fail)
  exact ⟨_,_,rfl,by unfold sktM;rw [h1,h2,h3,h4];rfl,rfl⟩
 ·repeat' (first|refine gx ?_|fail)
  exact ⟨_,_,rfl,by unfold sktM;rw [h1,h2,h3,h4];rfl,rfl⟩
end Go.Proofs.YtkmclibmmlgogaaGreat.Two
namespace Go.Proofs.YtkmclibmmlgogaaGreat.Two
open Go.Abs Go.Abs.S
attribute [local irreducible] Rx Ry Rn Ex Pf
variable [Inhabited XO]
def l7:Lim:=⟨0,8,8,8⟩
theorem pm148 (a0 ax a1 a2 a3 a4 a5:AObj)(x y:Col):Pm A 148 [col7 y,.ptr 7 0] [a0,ax,a1,a2,a3,a4,a5,.cells (x.enc.map .d)] l7 (.d (.bool (seB y.name x.name))) [a0,ax,a1,a2,a3,a4,a5,.cells (x.enc.map .d)]:=by
 have _x:=(default:XO)
 suffices h:Pq A 148 [col7 y,.ptr 7 0] [a0,ax,a1,a2,a3,a4,a5,.cells (x.enc.map .d)] l7 fun v H1=>v= .d (.bool (seB y.name x.name))∧H1=[a0,ax,a1,a2,a3,a4,a5,.cells (x.enc.map .d)] by
  obtain ⟨v,H1,⟨rfl,rfl⟩,h⟩:=h;exact h
 refine Pq.run (b:=8) [col7 y,.ptr 7 0,.any,.any] rfl rfl rfl rfl rfl ?_
 repeat' (first|refine gx ?_|fail)
 exact ⟨_,_,rfl,rfl,rfl⟩
set_option maxHeartbeats 2000000 in
theorem pm171 (a0 ax a1 a2 a3 a4 a5:AObj)(x:Col)(ys:List Col)(hy:ys.length≤1000):Pm A 171 [.d (encL Col.enc ys),.func 148 [] [.ptr 7 0]] [a0,ax,a1,a2,a3,a4,a5,.cells (x.enc.map .d)] l7 (.d (num (fiC x ys 0))) [a0,ax,a1,a2,a3,a4,a5,.cells (x.enc.map .d)]:=by
 suffices h:Pq A 171 [.d (encL Col.enc ys),.func 148 [] [.ptr 7 0]] [a0,ax,a1,a2,a3,a4,a5,.cells (x.enc.map .d)] l7 fun v H1=>v= .d (num (fiC x ys 0))∧H1=[a0,ax,a1,a2,a3,a4,a5,.cells (x.enc.map .d)] by
  obtain ⟨v,H1,⟨rfl,rfl⟩,h⟩:=h;exact h
 refine Pq.run (b:=8) [.d (encL Col.enc ys),.func 148 [] [.ptr 7 0],.any,.any,.any,.any] rfl rfl rfl rfl rfl ?_
 repeat' (first|refine gx ?_|fail)
 refine Ex.loopS (fun k T H=>∃ (i:Nat) (v w:AVal),T=[.d (encL Col.enc ys),.func 148 [] [.ptr 7 0],v,w,.d (num ys.length),.d (num i)]∧H=[a0,ax,a1,a2,a3,a4,a5,.cells (x.enc.map .d)]∧i+k=ys.length∧fiC x ys 0=fiC x (ys.drop i) i) (by rintro _ _ _ ⟨_,_,_,_,rfl,_⟩;rfl) ?_ (k:=ys.length) ⟨0,_,_,rfl,rfl,by simp,by simp⟩
 rintro k _ _ ⟨i,v,w,rfl,rfl,hk,hi⟩
 refine Ex.nT ?_
 refine Ex.seq ?_
 refine tb (ltB i ys.length) (fun h1=> ?_) (fun h1=> ?_)
 ·have h2:=ltB_t h1
  rw [drop_nth (by omega)] at hi
  have p1:=pm148 a0 ax a1 a2 a3 a4 a5 x (nth ys i)
  repeat' (first|refine gx ?_|fail)
  first|refine Ex.testB (seB (nth ys i).name x.name) (Rn.text ?_) (fun h3=> ?_) (fun h3=> ?_)|refine Ex.testB (seB (nth ys i).name x.name) (Rn.draw ?_) (fun h3=> ?_) (fun h3=> ?_)
  ·repeat' (first|refine cv1 p1 rfl ?_|refine gx ?_|refine fk (h1:=fun hw=> ?_) (h2:=fun hw=> ?_)|refine fpk (h1:=fun hw=> ?_) (h2:=fun hw=> ?_)|refine ⟨rfl,rfl,_,rfl,?_⟩|refine ⟨rfl,rfl⟩|fail)
   all_goals first|(simp [*,oneOrTuple];done)|(simp_all [oneOrTuple];done)|(simp_all [oneOrTuple,ltB_eq,leB_eq,eqB_eq,seB_eq];done)|(simp_all [oneOrTuple,ltB_eq,leB_eq,eqB_eq,seB_eq]<;>omega)
  ·repeat' (first|refine gx ?_|fail)
   exact ⟨_,_,rfl,by rw [hi,fiC,h3];rfl,rfl⟩
  ·repeat' (first|refine gx ?_|fail)
   exact ⟨k - 1,by omega,i+1,_,_,rfl,rfl,by omega,by rw [hi,fiC,h3];rfl⟩
 ·have h2:=ltB_f h1
  rw [List.drop_of_length_le (by omega)] at hi
  repeat' (first|refine gx ?_|fail)
  exact ⟨_,_,rfl,by rw [hi];rfl,rfl⟩
theorem pm147 (a0 ax a1 a2 a3 a4 a5:AObj)(x:Col)(ys:List Col)(hy:ys.length≤1000):Pm A 147 [.d (encL Col.enc ys),.func 148 [] [.ptr 7 0]] [a0,ax,a1,a2,a3,a4,a5,.cells (x.enc.map .d)] l7 (.d (.bool (ys.any fun y=>seB y.name x.name))) [a0,ax,a1,a2,a3,a4,a5,.cells (x.enc.map .d)]:=by
 have p1:=pm171 a0 ax a1 a2 a3 a4 a5 x ys hy
 rw [← fiC_any x ys 0]
 suffices h:Pq A 147 [.d (encL Col.enc ys),.func 148 [] [.ptr 7 0]] [a0,ax,a1,a2,a3,a4,a5,.cells (x.enc.map .d)] l7 fun v H1=>v= .d (.bool (leB 0 (fiC x ys 0)))∧H1=[a0,ax,a1,a2,a3,a4,a5,.cells (x.enc.map .d)] by
  obtain ⟨v,H1,⟨rfl,rfl⟩,h⟩:=h;exact h
 refine Pq.run (b:=8) [.d (encL Col.enc ys),.func 148 [] [.ptr 7 0],.any] rfl rfl rfl rfl rfl ?_
 repeat' (first|refine c1 p1 rfl ?_|refine gx ?_|fail)
 exact ⟨_,_,rfl,rfl,rfl⟩
end Go.Proofs.YtkmclibmmlgogaaGreat.Two
namespace Go.Proofs.YtkmclibmmlgogaaGreat.Two
open Go.Abs Go.Abs.S
attribute [local irreducible] Rx Ry Rn Ex Pf
variable [Inhabited XO]
set_option maxHeartbeats 8000000 in
theorem pm110 (c:Cat)(ds:List Str)(ss:List Sto)(t:Tab)(i:Nat)(hi:i<t.cols.length)(hc:t.cols.length≤1000)(ho:(nth t.cols i).owners.length≤1000)(hss:ss.length≤c.tabs.length)(ht:∀ k,k<ss.length→0<(nth ss k).2.2.length∧0<(nth c.tabs k).cols.length) :
  Pm A 110 [.ptr 5 0,tab t,.d (num i)] (HH c ds ss) lR (.d (num (colP c ss t i))) (HH c ds ss):=by
 have p61:=pm61 c ds ss (nth t.cols i).refs
 have b1:=idx_ss ss (nth t.cols i).refs
 have b2:(idxS (nth t.cols i).refs (ss.map (·.1)) 0)= -1∨(0≤(idxS (nth t.cols i).refs (ss.map (·.1)) 0)∧(idxS (nth t.cols i).refs (ss.map (·.1)) 0)<ss.length∧0<(nth ss (idxS (nth t.cols i).refs (ss.map (·.1)) 0).toNat).2.2.length∧0<(nth c.tabs (idxS (nth t.cols i).refs (ss.map (·.1)) 0).toNat).cols.length):=by
  rcases b1 with h|h
  ·exact Or.inl h
  ·have:=ht (idxS (nth t.cols i).refs (ss.map (·.1)) 0).toNat (by omega)
   exact Or.inr ⟨h.1,h.2,this.1,this.2⟩
 have q150:=pf150 t (nth t.cols i).owners ho hc
 have q151:=pf151 t (nth t.cols i)
 have q49:=pf49 (nth t.cols i).owners i (by omega)
 suffices h:Pq A 110 [.ptr 5 0,tab t,.d (num i)] (HH c ds ss) lR fun v H1=>v= .d (num (colP c ss t i))∧H1=HH c ds ss by
  obtain ⟨v,H1,⟨rfl,rfl⟩,h⟩:=h;exact h
 unfold HH at *
 have q147:=pm147 (.cells (c.enc.map .d)) xo (.cells (c.enc.map .d)) (.map (dmap ds)) (.map (nmap (ss.map (·.1)) 0)) (.cells (c.enc.map .d++[.map 3,.map 4,ownL 2 encSt ss])) (.cells (t.enc.map .d)) (nth t.cols i) (t.cols.take i) (by simp;omega)
 refine Pq.run (b:=6) [.ptr 5 0,tab t,.d (num i),.any,.any,.any,.any,.any] rfl rfl rfl rfl rfl ?_
 repeat' (first|refine gx ?_|fail)
 first|refine Ex.testB (!isNameB (nth t.cols i).name||(!seB (nth t.cols i).space []&& !isNameB (nth t.cols i).space)) (Rn.text ?_) (fun h1=> ?_) (fun h1=> ?_)|refine Ex.testB (!isNameB (nth t.cols i).name||(!seB (nth t.cols i).space []&& !isNameB (nth t.cols i).space)) (Rn.draw ?_) (fun h1=> ?_) (fun h1=> ?_)
 ·repeat' (first|refine cl (pf146 _) ?_|refine gx ?_|refine fk (h1:=fun hw=> ?_) (h2:=fun hw=> ?_)|refine fpk (h1:=fun hw=> ?_) (h2:=fun hw=> ?_)|refine ⟨rfl,rfl,_,rfl,?_⟩|refine ⟨rfl,rfl⟩|fail)
  all_goals first|(simp [*,oneOrTuple];done)|(simp_all [oneOrTuple];done)|(simp_all [oneOrTuple,ltB_eq,leB_eq,eqB_eq,seB_eq];done)|(simp_all [oneOrTuple,ltB_eq,leB_eq,eqB_eq,seB_eq]<;>omega)
 ·repeat' (first|refine gx ?_|fail)
  exact ⟨_,_,rfl,by unfold colP;rw [h1];rfl,rfl⟩
 repeat' (first|refine gx ?_|fail)
 first|refine Ex.testB ((t.cols.take i).any fun y=>seB y.name (nth t.cols i).name) (Rn.text ?_) (fun h2=> ?_) (fun h2=> ?_)|refine Ex.testB ((t.cols.take i).any fun y=>seB y.name (nth t.cols i).name) (Rn.draw ?_) (fun h2=> ?_) (fun h2=> ?_)
 ·repeat' (first|refine c1 q147 rfl ?_|refine gx ?_|refine fk (h1:=fun hw=> ?_) (h2:=fun hw=> ?_)|refine fpk (h1:=fun hw=> ?_) (h2:=fun hw=> ?_)|refine ⟨rfl,rfl,_,rfl,?_⟩|refine ⟨rfl,rfl⟩|fail)
  all_goals first|(simp [*,oneOrTuple];done)|(simp_all [oneOrTuple];done)|(simp_all [oneOrTuple,ltB_eq,leB_eq,eqB_eq,seB_eq];done)|(simp_all [oneOrTuple,ltB_eq,leB_eq,eqB_eq,seB_eq]<;>omega)
 ·repeat' (first|refine gx ?_|fail)
  exact ⟨_,_,rfl,by unfold colP;rw [h1,h2];rfl,rfl⟩
 repeat' (first|refine c1 p61 rfl ?_|refine gx ?_|fail)
 refine tb (!seB (nth t.cols i).refs []&&ltB (idxS (nth t.cols i).refs (ss.map (·.1)) 0) 0) (fun h3=> ?_) (fun h3=> ?_)
 ·repeat' (first|refine gx ?_|fail)
  exact ⟨_,_,rfl,by unfold colP;rw [h1,h2,h3];rfl,rfl⟩
 repeat' (first|refine gx ?_|fail)
 first|refine Ex.testB (!(eqB (nth t.cols i).type 1||eqB (nth t.cols i).type 2)||(leB 0 (idxS (nth t.cols i).refs (ss.map (·.1)) 0)&& !eqB (nth t.cols i).type (nth (nth ss (idxS (nth t.cols i).refs (ss.map (·.1)) 0).toNat).2.2 0))) (Rn.text ?_) (fun h4=> ?_) (fun h4=> ?_)|refine Ex.testB (!(eqB (nth t.cols i).type 1||eqB (nth t.cols i).type 2)||(leB 0 (idxS (nth t.cols i).refs (ss.map (·.1)) 0)&& !eqB (nth t.cols i).type (nth (nth ss (idxS (nth t.cols i).refs (ss.map (·.1)) 0).toNat).2.2 0))) (Rn.draw ?_) (fun h4=> ?_) (fun h4=> ?_)
 ·repeat' (first|refine cl (pf149 _) ?_|refine gx ?_|refine fk (h1:=fun hw=> ?_) (h2:=fun hw=> ?_)|refine fpk (h1:=fun hw=> ?_) (h2:=fun hw=> ?_)|refine ⟨rfl,rfl,_,rfl,?_⟩|refine ⟨rfl,rfl⟩|fail)
  all_goals first|(simp [*,oneOrTuple];done)|(simp_all [oneOrTuple];done)|(simp_all [oneOrTuple,ltB_eq,leB_eq,eqB_eq,seB_eq];done)|(simp_all [oneOrTuple,ltB_eq,leB_eq,eqB_eq,seB_eq]<;>omega)
 ·repeat' (first|refine gx ?_|fail)
  exact ⟨_,_,rfl,by unfold colP;rw [h1,h2,h3,h4];rfl,rfl⟩
 repeat' (first|refine gx ?_|fail)
 first|refine Ex.testB ((!seB (nth t.cols i).space []&& !seB (nth t.cols i).refs [])|| !ownersB t (-1) (nth t.cols i).owners|| !rulesB t (nth t.cols i)) (Rn.text ?_) (fun h5=> ?_) (fun h5=> ?_)|refine Ex.testB ((!seB (nth t.cols i).space []&& !seB (nth t.cols i).refs [])|| !ownersB t (-1) (nth t.cols i).owners|| !rulesB t (nth t.cols i)) (Rn.draw ?_) (fun h5=> ?_) (fun h5=> ?_)
 ·repeat' (first|refine cl (q150) ?_|refine cl (q151) ?_|refine gx ?_|refine fk (h1:=fun hw=> ?_) (h2:=fun hw=> ?_)|refine fpk (h1:=fun hw=> ?_) (h2:=fun hw=> ?_)|refine ⟨rfl,rfl,_,rfl,?_⟩|refine ⟨rfl,rfl⟩|fail)
  all_goals first|(simp [*,oneOrTuple];done)|(simp_all [oneOrTuple];done)|(simp_all [oneOrTuple,ltB_eq,leB_eq,eqB_eq,seB_eq];done)|(simp_all [oneOrTuple,ltB_eq,leB_eq,eqB_eq,seB_eq]<;>omega)
 ·repeat' (first|refine gx ?_|fail)
  exact ⟨_,_,rfl,by unfold colP;rw [h1,h2,h3,h4,h5];rfl,rfl⟩
 repeat' (first|refine gx ?_|fail)
 refine tb (eqB i 0&&ltB 0 (nth t.cols i).owners.length&& !eqB t.erase 1) (fun h6=> ?_) (fun h6=> ?_)
 ·repeat' (first|refine gx ?_|fail)
  exact ⟨_,_,rfl,by unfold colP;rw [h1,h2,h3,h4,h5,h6];rfl,rfl⟩
 repeat' (first|refine gx ?_|fail)
 first|refine Ex.testB (leB 0 (idxS (nth t.cols i).refs (ss.map (·.1)) 0)&&ltB 0 (nth (nth c.tabs (idxS (nth t.cols i).refs (ss.map (·.1)) 0).toNat).cols 0).owners.length&& !((nth t.cols i).owners.any fun y=>eqB y i)) (Rn.text ?_) (fun h7=> ?_) (fun h7=> ?_)|refine Ex.testB (leB 0 (idxS (nth t.cols i).refs (ss.map (·.1)) 0)&&ltB 0 (nth (nth c.tabs (idxS (nth t.cols i).refs (ss.map (·.1)) 0).toNat).cols 0).owners.length&& !((nth t.cols i).owners.any fun y=>eqB y i)) (Rn.draw ?_) (fun h7=> ?_) (fun h7=> ?_)
 ·repeat' (first|refine cl (q49) ?_|refine gx ?_|refine fk (h1:=fun hw=> ?_) (h2:=fun hw=> ?_)|refine fpk (h1:=fun hw=> ?_) (h2:=fun hw=> ?_)|refine ⟨rfl,rfl,_,rfl,?_⟩|refine ⟨rfl,rfl⟩|fail)
  all_goals first|(simp [*,oneOrTuple];done)|(simp_all [oneOrTuple];done)|(simp_all [oneOrTuple,ltB_eq,leB_eq,eqB_eq,seB_eq];done)|(simp_all [oneOrTuple,ltB_eq,leB_eq,eqB_eq,seB_eq]<;>omega)
 ·repeat' (first|refine gx ?_|fail)
  exact ⟨_,_,rfl,by unfold colP;rw [h1,h2,h3,h4,h5,h6,h7];rfl,rfl⟩
 repeat' (first|refine gx ?_|fail)
 exact ⟨_,_,rfl,by unfold colP;rw [h1,h2,h3,h4,h5,h6,h7];rfl,rfl⟩
end Go.Proofs.YtkmclibmmlgogaaGreat.Two
namespace Go.Proofs.YtkmclibmmlgogaaGreat.Two
open Go.Abs Go.Abs.S
attribute [local irreducible] Rx Ry Rn Ex Pf
variable [Inhabited XO]
set_option maxHeartbeats 8000000 in
theorem pm68 (c:Cat)(ds:List Str)(ss:List Sto)(i:Nat)(hi:i<c.tabs.length)(hc:(nth c.tabs i).cols.length≤1000)(ho:∀ j,j<(nth c.tabs i).cols.length→(nth (nth c.tabs i).cols j).owners.length≤1000)(hss:ss.length≤c.tabs.length)(hss2:ss.length≤1000)(hi2:c.tabs.length≤1000)
  (ht:∀ k,k<ss.length→0<(nth ss k).2.2.length∧0<(nth c.tabs k).cols.length) (hsub:∀ s,(ds.any fun y=>seB y s)=false→((ss.map (·.1)).any fun y=>seB y s)=false) :
  Pm A 68 [.ptr 5 0,.d (num i)] (HH c ds ss) lW (.d (num (tabM c ss ds (nth c.tabs i)))) (HH c (declD ds (nth c.tabs i).name) (tabS c ss ds (nth c.tabs i))):=by
 generalize hx:nth c.tabs i=t at *
 have p108:=pm108 c ds ss t.name
 have p110:∀ j,j<t.cols.length→Pm A 110 [.ptr 5 0,tab t,.d (num j)] (HH c (declD ds t.name) ss) lR (.d (num (colP c ss t j))) (HH c (declD ds t.name) ss):=fun j hj=>pm110 c (declD ds t.name) ss t j hj hc (ho j hj) hss ht
 have q112:=pf112 t.cols hc
 have q114:=pf114 t.cols hc
 have p111:declE ds t.name=0→Pm A 111 [.ptr 5 0,.d (.str t.name),cols2 (t.cols.map Col.name) (t.cols.map Col.type)] (HH c (declD ds t.name) ss) lW (.tuple []) (HH c (declD ds t.name) (ss++[(t.name,t.cols.map Col.name,t.cols.map Col.type)])):=fun h=>by
  refine pm111 c (declD ds t.name) ss t.name _ _ (hsub _ ?_) hss2
  unfold declE at h
  cases h1:(!isNameB t.name) with
  |true=>rw [h1] at h;simp at h
  |false =>
   rw [h1] at h
   cases h2:ds.any fun y=>seB y t.name with
   |false=>rfl
   |true=>rw [h2] at h;simp at h
 suffices h:Pq A 68 [.ptr 5 0,.d (num i)] (HH c ds ss) lW fun v H1=>v= .d (num (tabM c ss ds t))∧H1=HH c (declD ds t.name) (tabS c ss ds t) by
  obtain ⟨v,H1,⟨rfl,rfl⟩,h⟩:=h;exact h
 have fin:∀ e:Int,eqB e 0=false→tabM c ss ds t=e→tabS c ss ds t=ss:=fun e h1 h2=>by unfold tabS;rw [h2,h1];rfl
 unfold HH at *
 refine Pq.run (b:=6) [.ptr 5 0,.d (num i),.any,.any,.any,.any,.any,.any,.any] rfl rfl rfl rfl rfl ?_
 repeat' (first|refine gx ?_|fail)
 rw [hx]
 repeat' (first|refine c0 p108 rfl (h2:= ?_)|refine gx ?_|fail)
 refine tb (!eqB (declE ds t.name) 0) (fun h1=> ?_) (fun h1=> ?_)
 ·have e1:tabM c ss ds t=declE ds t.name:=by unfold tabM;rw [h1];rfl
  repeat' (first|refine gx ?_|fail)
  exact ⟨_,_,rfl,by rw [e1];rfl,by rw [fin _ (by simpa using h1) e1];rfl⟩
 repeat' (first|refine gx ?_|fail)
 first|refine Ex.testB (tabBad t) (Rn.text ?_) (fun h2=> ?_) (fun h2=> ?_)|refine Ex.testB (tabBad t) (Rn.draw ?_) (fun h2=> ?_) (fun h2=> ?_)
 ·repeat' (first|refine cl (pf109 _ _ _) ?_|refine gx ?_|refine fk (h1:=fun hw=> ?_) (h2:=fun hw=> ?_)|refine fpk (h1:=fun hw=> ?_) (h2:=fun hw=> ?_)|refine ⟨rfl,rfl,_,rfl,?_⟩|refine ⟨rfl,rfl⟩|fail)
  all_goals first|(simp [*,oneOrTuple,tabBad];done)|(simp_all [oneOrTuple,tabBad];done)|(simp_all [oneOrTuple,tabBad,ltB_eq,leB_eq,eqB_eq,seB_eq];done)|(simp_all [oneOrTuple,tabBad,ltB_eq,leB_eq,eqB_eq,seB_eq]<;>omega)
 ·have e1:tabM c ss ds t=1:=by unfold tabM;rw [h1,h2];rfl
  repeat' (first|refine gx ?_|fail)
  exact ⟨_,_,rfl,by rw [e1];rfl,by rw [fin 1 (by simp [eqB_eq]) e1];rfl⟩
 repeat' (first|refine gx ?_|fail)
 refine Ex.loopS (fun k T H=>∃ (j:Nat) (w1 w2 w4 w5 w6:AVal),T=[.ptr 5 0,w1,w2,.ptr 6 0,w4,w5,w6,.d (num t.cols.length),.d (num j)]∧H=[.cells (c.enc.map .d),xo,.cells (c.enc.map .d),.map (dmap (declD ds t.name)),.map (nmap (ss.map (·.1)) 0),.cells (c.enc.map .d++[.map 3,.map 4,ownL 2 encSt ss]),.cells (t.enc.map .d)]∧j+k=t.cols.length∧tabM c ss ds t=colsP c ss t k j) (by rintro _ _ _ ⟨_,_,_,_,_,_,_,rfl,_⟩;rfl) ?_ (k:=t.cols.length) ⟨0,_,_,_,_,_,rfl,rfl,by simp,by unfold tabM;rw [h1,h2];rfl⟩
 rintro k _ _ ⟨j,w1,w2,w4,w5,w6,rfl,rfl,hk,hj⟩
 refine Ex.nT ?_
 refine Ex.seq ?_
 refine tb (ltB j t.cols.length) (fun h3=> ?_) (fun h3=> ?_)
 ·have h4:=ltB_t h3
  obtain ⟨k,rfl⟩:∃ k',k=k' +1:=⟨k - 1,by omega⟩
  have q110:=p110 j (by omega)
  rw [colsP] at hj
  repeat' (first|refine c1 q110 rfl ?_|refine gx ?_|fail)
  refine tb (!eqB (colP c ss t j) 0) (fun h5=> ?_) (fun h5=> ?_)
  ·rw [h5,if_pos rfl] at hj
   repeat' (first|refine gx ?_|fail)
   exact ⟨_,_,rfl,by rw [hj];rfl,by rw [fin _ (by simpa using h5) hj];rfl⟩
  ·rw [h5,if_neg (by simp)] at hj
   repeat' (first|refine gx ?_|fail)
   exact ⟨k,by omega,j+1,_,_,_,_,_,rfl,rfl,by omega,hj⟩
 ·have h4:=ltB_f h3
  obtain rfl:k=0:=by omega
  have q111:=p111 (eqB_t (by simpa using h1))
  have e1:tabM c ss ds t=0:=hj
  have e2:tabS c ss ds t=ss++[(t.name,t.cols.map Col.name,t.cols.map Col.type)]:=by unfold tabS;rw [e1];simp [eqB_eq]
  rw [e2]
  repeat' (first|refine cl (q112) ?_|refine cl (q114) ?_|refine c0 q111 rfl (h2:= ?_)|refine gx ?_|fail)
  exact ⟨_,_,rfl,by rw [e1];rfl,rfl⟩
end Go.Proofs.YtkmclibmmlgogaaGreat.Two
namespace Go.Proofs.YtkmclibmmlgogaaGreat.Two
open Go.Abs Go.Abs.S
attribute [local irreducible] Rx Ry Rn Ex Pf
variable [Inhabited XO]
set_option maxHeartbeats 4000000 in
theorem pm73 (c:Cat)(ds:List Str)(ss:List Sto)(i:Nat)(hi:i<c.rlss.length)(hc:c.tabs.length≤1000)(hss:ss.length≤c.tabs.length+c.views.length)(hsv:c.views.length≤1000)(hg:∀ k,k<c.views.length→(nth c.views k).kind≠1∨0<(nth c.views k).aggs.length):Pm A 73 [.ptr 5 0,.d (num i)] (HH c ds ss) lW (.d (num (rlsM c ss ds (nth c.rlss i)))) (HH c (declD ds (nth c.rlss i).name) ss):=by
 have p108:=pm108 c ds ss (nth c.rlss i).name
 have p61:=pm61 c (declD ds (nth c.rlss i).name) ss (nth c.rlss i).source
 have b1:=idx_ss ss (nth c.rlss i).source
 suffices h:Pq A 73 [.ptr 5 0,.d (num i)] (HH c ds ss) lW fun v H1=>v= .d (num (rlsM c ss ds (nth c.rlss i)))∧H1=HH c (declD ds (nth c.rlss i).name) ss by
  obtain ⟨v,H1,⟨rfl,rfl⟩,h⟩:=h;exact h
 generalize hx:nth c.rlss i=x at *
 unfold HH at *
 refine Pq.run (b:=6) [.ptr 5 0,.d (num i),.any,.any,.any,.any,.any] rfl rfl rfl rfl rfl ?_
 repeat' (first|refine gx ?_|fail)
 rw [hx]
 repeat' (first|refine c0 p108 rfl (h2:= ?_)|refine gx ?_|fail)
 refine tb (!eqB (declE ds x.name) 0) (fun h1=> ?_) (fun h1=> ?_)
 ·repeat' (first|refine gx ?_|fail)
  exact ⟨_,_,rfl,by unfold rlsM;rw [h1];rfl,rfl⟩
 repeat' (first|refine c1 p61 rfl ?_|refine gx ?_|fail)
 refine tb (ltB (idxS x.source (ss.map (·.1)) 0 - c.tabs.length) 0) (fun h2=> ?_) (fun h2=> ?_)
 ·repeat' (first|refine gx ?_|fail)
  exact ⟨_,_,rfl,by unfold rlsM;rw [h1,h2];rfl,rfl⟩
 have h3:=ltB_f h2
 have h4:=hg (idxS x.source (ss.map (·.1)) 0 - c.tabs.length).toNat (by omega)
 have hrv:nth c.views (idxS x.source (ss.map (·.1)) 0 - c.tabs.length).toNat=rlV c ss x:=rfl
 repeat' (first|refine gx ?_|fail)
 rw [hrv] at h4 ⊢
 repeat' (first|refine gx ?_|fail)
 first|refine Ex.testB (!eqB (rlV c ss x).kind 1|| !eqB (nth (rlV c ss x).aggs 0).func 0|| !withinB x.thr 1 1024) (Rn.text ?_) (fun h5=> ?_) (fun h5=> ?_)|refine Ex.testB (!eqB (rlV c ss x).kind 1|| !eqB (nth (rlV c ss x).aggs 0).func 0|| !withinB x.thr 1 1024) (Rn.draw ?_) (fun h5=> ?_) (fun h5=> ?_)
 ·repeat' (first|refine cl (pf109 _ _ _) ?_|refine gx ?_|refine fk (h1:=fun hw=> ?_) (h2:=fun hw=> ?_)|refine fpk (h1:=fun hw=> ?_) (h2:=fun hw=> ?_)|refine ⟨rfl,rfl,_,rfl,?_⟩|refine ⟨rfl,rfl⟩|fail)
  all_goals first|(simp [*,oneOrTuple];done)|(simp_all [oneOrTuple];done)|(simp_all [oneOrTuple,ltB_eq,leB_eq,eqB_eq,seB_eq];done)|(simp_all [oneOrTuple,ltB_eq,leB_eq,eqB_eq,seB_eq]<;>omega)
 ·repeat' (first|refine gx ?_|fail)
  exact ⟨_,_,rfl,by unfold rlsM;rw [h1,h2,h5];rfl,rfl⟩
 ·repeat' (first|refine gx ?_|fail)
  exact ⟨_,_,rfl,by unfold rlsM;rw [h1,h2,h5];rfl,rfl⟩
set_option maxHeartbeats 4000000 in
theorem pm75 (c:Cat)(ds:List Str)(ss:List Sto)(i:Nat)(hi:i<c.bkps.length)(hc:c.tabs.length≤1000)(hx1:(nth c.bkps i).tables.length≤1000):Pm A 75 [.ptr 5 0,.d (num i)] (HH c ds ss) lW (.d (num (bkM c ss ds (nth c.bkps i)))) (HH c (declD ds (nth c.bkps i).name) ss):=by
 have p108:=pm108 c ds ss (nth c.bkps i).name
 have p122:∀ s,Pm A 122 [.ptr 5 0,.d (.str s)] (HH c (declD ds (nth c.bkps i).name) ss) lR (.d (.bool (isTabB c ss s))) (HH c (declD ds (nth c.bkps i).name) ss):=fun s=>pm122 c (declD ds (nth c.bkps i).name) ss s hc
 suffices h:Pq A 75 [.ptr 5 0,.d (num i)] (HH c ds ss) lW fun v H1=>v= .d (num (bkM c ss ds (nth c.bkps i)))∧H1=HH c (declD ds (nth c.bkps i).name) ss by
  obtain ⟨v,H1,⟨rfl,rfl⟩,h⟩:=h;exact h
 generalize hx:nth c.bkps i=x at *
 unfold HH at *
 refine Pq.run (b:=6) [.ptr 5 0,.d (num i),.any,.any,.any,.any,.any,.any,.any,.any] rfl rfl rfl rfl rfl ?_
 repeat' (first|refine gx ?_|fail)
 rw [hx]
 repeat' (first|refine c0 p108 rfl (h2:= ?_)|refine gx ?_|fail)
 refine tb (!eqB (declE ds x.name) 0) (fun h1=> ?_) (fun h1=> ?_)
 ·repeat' (first|refine gx ?_|fail)
  exact ⟨_,_,rfl,by unfold bkM;rw [h1];rfl,rfl⟩
 repeat' (first|refine gx ?_|fail)
 first|refine Ex.testB (eqB x.tables.length 0|| !withinB x.keep 1 1048576) (Rn.text ?_) (fun h2=> ?_) (fun h2=> ?_)|refine Ex.testB (eqB x.tables.length 0|| !withinB x.keep 1 1048576) (Rn.draw ?_) (fun h2=> ?_) (fun h2=> ?_)
 ·repeat' (first|refine cl (pf109 _ _ _) ?_|refine gx ?_|refine fk (h1:=fun hw=> ?_) (h2:=fun hw=> ?_)|refine fpk (h1:=fun hw=> ?_) (h2:=fun hw=> ?_)|refine ⟨rfl,rfl,_,rfl,?_⟩|refine ⟨rfl,rfl⟩|fail)
  all_goals first|(simp [*,oneOrTuple];done)|(simp_all [oneOrTuple];done)|(simp_all [oneOrTuple,ltB_eq,leB_eq,eqB_eq,seB_eq];done)|(simp_all [oneOrTuple,ltB_eq,leB_eq,eqB_eq,seB_eq]<;>omega)
 ·repeat' (first|refine gx ?_|fail)
  exact ⟨_,_,rfl,by unfold bkM;rw [h1,h2];rfl,rfl⟩
 repeat' (first|refine gx ?_|fail)
 refine Ex.loopS (fun k T H=>∃ (j:Nat) (w1 w2 w4 w5 w6:AVal),T=[.ptr 5 0,w1,w2,.ptr 6 0,w4,w5,w6,.d (encL (fun s=>[.str s]) x.tables),.d (num x.tables.length),.d (num j)]∧H=[.cells (c.enc.map .d),xo,.cells (c.enc.map .d),.map (dmap (declD ds x.name)),.map (nmap (ss.map (·.1)) 0),.cells (c.enc.map .d++[.map 3,.map 4,ownL 2 encSt ss]),.cells (x.enc.map .d)]∧j+k=x.tables.length∧bkM c ss ds x=bkL c ss (x.tables.take j) (x.tables.drop j)) (by rintro _ _ _ ⟨_,_,_,_,_,_,_,rfl,_⟩;rfl) ?_ (k:=x.tables.length) ⟨0,_,_,_,_,_,rfl,rfl,by simp,by simp [bkM,h1,h2]⟩
 rintro k _ _ ⟨j,w1,w2,w4,w5,w6,rfl,rfl,hk,hj⟩
 refine Ex.nT ?_
 refine Ex.seq ?_
 refine tb (ltB j x.tables.length) (fun h3=> ?_) (fun h3=> ?_)
 ·have h4:=ltB_t h3
  rw [drop_nth (by omega)] at hj
  have q122:=p122 (nth x.tables j)
  have q123:=pf123 (x.tables.take j) (nth x.tables j) (by simp;omega)
  repeat' (first|refine gx ?_|fail)
  first|refine Ex.testB (!isTabB c ss (nth x.tables j)) (Rn.text ?_) (fun h5=> ?_) (fun h5=> ?_)|refine Ex.testB (!isTabB c ss (nth x.tables j)) (Rn.draw ?_) (fun h5=> ?_) (fun h5=> ?_)
  ·repeat' (first|refine c1 q122 rfl ?_|refine gx ?_|refine fk (h1:=fun hw=> ?_) (h2:=fun hw=> ?_)|refine fpk (h1:=fun hw=> ?_) (h2:=fun hw=> ?_)|refine ⟨rfl,rfl,_,rfl,?_⟩|refine ⟨rfl,rfl⟩|fail)
   all_goals first|(simp [*,oneOrTuple];done)|(simp_all [oneOrTuple];done)|(simp_all [oneOrTuple,ltB_eq,leB_eq,eqB_eq,seB_eq];done)|(simp_all [oneOrTuple,ltB_eq,leB_eq,eqB_eq,seB_eq]<;>omega)
  ·repeat' (first|refine gx ?_|fail)
   exact ⟨_,_,rfl,by rw [hj];unfold bkL;rw [h5];rfl,rfl⟩
  repeat' (first|refine gx ?_|fail)
  first|refine Ex.testB ((x.tables.take j).any fun y=>seB y (nth x.tables j)) (Rn.text ?_) (fun h6=> ?_) (fun h6=> ?_)|refine Ex.testB ((x.tables.take j).any fun y=>seB y (nth x.tables j)) (Rn.draw ?_) (fun h6=> ?_) (fun h6=> ?_)
  ·repeat' (first|refine cl (q123) ?_|refine gx ?_|refine fk (h1:=fun hw=> ?_) (h2:=fun hw=> ?_)|refine fpk (h1:=fun hw=> ?_) (h2:=fun hw=> ?_)|refine ⟨rfl,rfl,_,rfl,?_⟩|refine ⟨rfl,rfl⟩|fail)
   all_goals first|(simp [*,oneOrTuple];done)|(simp_all [oneOrTuple];done)|(simp_all [oneOrTuple,ltB_eq,leB_eq,eqB_eq,seB_eq];done)|(simp_all [oneOrTuple,ltB_eq,leB_eq,eqB_eq,seB_eq]<;>omega)
  ·repeat' (first|refine gx ?_|fail)
   exact ⟨_,_,rfl,by rw [hj];unfold bkL;rw [h5,h6];rfl,rfl⟩
  ·repeat' (first|refine gx ?_|fail)
   refine ⟨k - 1,by omega,j+1,_,_,_,_,_,rfl,rfl,by omega,?_⟩
   rw [hj,take_nth (by omega)]
   simp only [bkL,h5,h6,Bool.false_eq_true,if_false]
 ·have h4:=ltB_f h3
  rw [List.drop_of_length_le (by omega)] at hj
  repeat' (first|refine gx ?_|fail)
  exact ⟨_,_,rfl,by rw [hj];rfl,rfl⟩
end Go.Proofs.YtkmclibmmlgogaaGreat.Two
