/-
  The program's checker: its small methods.; The program's checker: declare, add, source.; The program's columns of tables.; The program's columns of tables: names twice; lists collected.
  (Put together by a small program out of several texts; blanks left out to keep the folder small.)
-/
import Derived.Test.YtkmclibmmlgogaaGreatD1
import Derived.Test.YtkmclibmmlgogaaGreatD4
import Derived.Test.YtkmclibmmlgogaaGreatB6
set_option linter.unusedVariables false
set_option linter.unusedSimpArgs false
namespace Go.Proofs.YtkmclibmmlgogaaGreat
open Go.Abs Go.Abs.S
attribute [local irreducible] Rx Ry Rn Ex Pf
abbrev Sto:=Str×List Str×List Int
def encSt (s:Sto):List Abs.Data:=[encL encS s.2.1,ints s.2.2]
def HH (c:Cat)(ds:List Str)(ss:List Sto):Heap :=
 [.cells (c.enc.map .d),.cells (c.enc.map .d),.map (dmap ds),.map (nmap (ss.map (·.1)) 0),.cells (c.enc.map .d++[.map 2,.map 3,ownL 2 encSt ss])]
def lW:Lim:=⟨0,0,5,5⟩
def lR:Lim:=⟨0,5,5,5⟩
theorem nmap_find (s:Str):∀ (l:List Str) (i:Nat),mapFind .s (.str s) (nmap l i)=some (if ltB (idxS s l i) 0 then none else some (.d (num (idxS s l i))))
 |[],i=>by simp [nmap,mapFind,idxS,ltB_eq]
 |d::l,i=>by
  have h1:=nmap_find s l (i+1)
  have h2:(s==d)=seB d s:=by
   rw [seB_eq,Bool.eq_iff_iff]
   simp only [beq_iff_eq]
   exact eq_comm
  simp only [nmap,mapFind,Data.keyEq,idxS,h2]
  by_cases hb:seB d s=true
  ·simp [hb,ltB_eq,num]
  ·have hb' :seB d s=false:=by simpa using hb
   simp only [hb',Bool.false_eq_true,if_false]
   exact h1
theorem pm61 (c:Cat)(ds:List Str)(ss:List Sto)(s:Str):Pm A 61 [.ptr 4 0,.d (.str s)] (HH c ds ss) lR (.d (num (idxS s (ss.map (·.1)) 0))) (HH c ds ss):=by
 have hf:=nmap_find s (ss.map (·.1)) 0
 suffices h:Pq A 61 [.ptr 4 0,.d (.str s)] (HH c ds ss) lR fun v H1=>v= .d (num (idxS s (ss.map (·.1)) 0))∧H1=HH c ds ss by
  obtain ⟨v,H1,⟨rfl,rfl⟩,h⟩:=h;exact h
 unfold HH
 refine Pq.run (b:=5) [.ptr 4 0,.d (.str s),.any,.any,.any] rfl rfl rfl rfl rfl ?_
 cases h1:ltB (idxS s (ss.map (·.1)) 0) 0 with
 |true =>
  rw [h1,if_pos rfl] at hf
  have h2:=ltB_t h1
  have h3:idxS s (ss.map (·.1)) 0= -1:=by rcases idxS_bound s (ss.map (·.1)) 0 with h|h<;>omega
  repeat' (first|refine lk2 hf rfl rfl ?_|refine gx ?_|fail)
  refine tb (false) (fun h4=> ?_) (fun h4=> ?_)
  ·cases h4
  repeat' (first|refine gx ?_|fail)
  exact ⟨_,_,rfl,by rw [h3];rfl,rfl⟩
 |false =>
  rw [h1,if_neg (by simp)] at hf
  repeat' (first|refine lk2 hf rfl rfl ?_|refine gx ?_|fail)
  refine tb (true) (fun h4=> ?_) (fun h4=> ?_)
  ·repeat' (first|refine gx ?_|fail)
   exact ⟨_,_,rfl,rfl,rfl⟩
  ·cases h4
theorem pm38 (c:Cat)(ds:List Str)(ss:List Sto)(n:Int):Pm A 38 [.ptr 4 0,.d (num n)] (HH c ds ss) lR (.d (.bool (leB 0 n&&ltB n ss.length))) (HH c ds ss):=by
 suffices h:Pq A 38 [.ptr 4 0,.d (num n)] (HH c ds ss) lR fun v H1=>v= .d (.bool (leB 0 n&&ltB n ss.length))∧H1=HH c ds ss by
  obtain ⟨v,H1,⟨rfl,rfl⟩,h⟩:=h;exact h
 unfold HH
 refine Pq.run (b:=5) [.ptr 4 0,.d (num n),.any] rfl rfl rfl rfl rfl ?_
 repeat' (first|refine gx ?_|refine fk (h1:=fun hw=> ?_) (h2:=fun hw=> ?_)|refine fpk (h1:=fun hw=> ?_) (h2:=fun hw=> ?_)|refine Ex.condP ?_|refine Ex.condN ?_|refine Ex.cond rfl (fun ht=> ?_) (fun ht=> ?_)|refine Ex.test (Rn.text ?_)|refine Ex.test (Rn.draw ?_)|refine ⟨_,rfl,fun ht=> ?_,fun ht=> ?_⟩|refine ⟨_,rfl,?_⟩|fail)
 all_goals exact ⟨_,_,rfl,by simp [*,oneOrTuple],rfl⟩
def isTabB (c:Cat)(ss:List Sto)(s:Str):Bool:=withinB (idxS s (ss.map (·.1)) 0) 0 (c.tabs.length - 1)
theorem pm122 (c:Cat)(ds:List Str)(ss:List Sto)(s:Str)(hc:c.tabs.length≤1000):Pm A 122 [.ptr 4 0,.d (.str s)] (HH c ds ss) lR (.d (.bool (isTabB c ss s))) (HH c ds ss):=by
 have p1:=pm61 c ds ss s
 suffices h:Pq A 122 [.ptr 4 0,.d (.str s)] (HH c ds ss) lR fun v H1=>v= .d (.bool (isTabB c ss s))∧H1=HH c ds ss by
  obtain ⟨v,H1,⟨rfl,rfl⟩,h⟩:=h;exact h
 unfold HH at p1 ⊢
 refine Pq.run (b:=5) [.ptr 4 0,.d (.str s),.any] rfl rfl rfl rfl rfl ?_
 repeat' (first|refine c1 p1 rfl ?_|refine cl (pf109 _ _ _) ?_|refine gx ?_|fail)
 exact ⟨_,_,rfl,rfl,rfl⟩
end Go.Proofs.YtkmclibmmlgogaaGreat
namespace Go.Proofs.YtkmclibmmlgogaaGreat
open Go.Abs Go.Abs.S
attribute [local irreducible] Rx Ry Rn Ex Pf
def declE (ds:List Str)(s:Str):Int:=if !isNameB s then 3 else if ds.any fun y=>seB y s then 4 else 0
def declD (ds:List Str)(s:Str):List Str:=if eqB (declE ds s) 0 then ds++[s] else ds
theorem pm108 (c:Cat)(ds:List Str)(ss:List Sto)(s:Str):Pm A 108 [.ptr 4 0,.d (.str s)] (HH c ds ss) lW (.d (num (declE ds s))) (HH c (declD ds s) ss):=by
 have hf:=dmap_find s ds
 suffices h:Pq A 108 [.ptr 4 0,.d (.str s)] (HH c ds ss) lW fun v H1=>v= .d (num (declE ds s))∧H1=HH c (declD ds s) ss by
  obtain ⟨v,H1,⟨rfl,rfl⟩,h⟩:=h;exact h
 unfold HH
 refine Pq.run (b:=5) [.ptr 4 0,.d (.str s),.any] rfl rfl rfl rfl rfl ?_
 have h10:eqB 3 0=false:=by simp [eqB_eq]
 have h11:eqB 4 0=false:=by simp [eqB_eq]
 have h12:eqB 0 0=true:=by simp [eqB_eq]
 repeat' (first|refine gx ?_|fail)
 first|refine Ex.testB (!isNameB s) (Rn.text ?_) (fun h1=> ?_) (fun h1=> ?_)|refine Ex.testB (!isNameB s) (Rn.draw ?_) (fun h1=> ?_) (fun h1=> ?_)
 ·repeat' (first|refine cl (pf146 _) ?_|refine gx ?_|refine fk (h1:=fun hw=> ?_) (h2:=fun hw=> ?_)|refine fpk (h1:=fun hw=> ?_) (h2:=fun hw=> ?_)|refine ⟨rfl,rfl,_,rfl,?_⟩|refine ⟨rfl,rfl⟩|fail)
  all_goals first|(simp [*,oneOrTuple];done)|(simp_all [oneOrTuple];done)|(simp_all [oneOrTuple,ltB_eq,leB_eq,eqB_eq,seB_eq];done)|(simp_all [oneOrTuple,ltB_eq,leB_eq,eqB_eq,seB_eq]<;>omega)
 ·repeat' (first|refine gx ?_|fail)
  have e1:declE ds s=3:=by unfold declE;rw [h1];rfl
  exact ⟨_,_,rfl,by rw [e1];rfl,by unfold declD;rw [e1,h10];rfl⟩
 cases h2:ds.any fun y=>seB y s with
 |true =>
  rw [h2,if_pos rfl] at hf
  have e1:declE ds s=4:=by unfold declE;rw [h1,h2];rfl
  first|refine Ex.testB (true) (Rn.text ?_) (fun h3=> ?_) (fun h3=> ?_)|refine Ex.testB (true) (Rn.draw ?_) (fun h3=> ?_) (fun h3=> ?_)
  ·repeat' (first|refine lk1 hf rfl ?_|refine gx ?_|refine fk (h1:=fun hw=> ?_) (h2:=fun hw=> ?_)|refine fpk (h1:=fun hw=> ?_) (h2:=fun hw=> ?_)|refine ⟨rfl,rfl,_,rfl,?_⟩|refine ⟨rfl,rfl⟩|fail)
   all_goals first|(simp [*,oneOrTuple];done)|(simp_all [oneOrTuple];done)|(simp_all [oneOrTuple,ltB_eq,leB_eq,eqB_eq,seB_eq];done)|(simp_all [oneOrTuple,ltB_eq,leB_eq,eqB_eq,seB_eq]<;>omega)
  ·repeat' (first|refine gx ?_|fail)
   exact ⟨_,_,rfl,by rw [e1];rfl,by unfold declD;rw [e1,h11];rfl⟩
  ·cases h3
 |false =>
  rw [h2,if_neg (by simp)] at hf
  have e1:declE ds s=0:=by unfold declE;rw [h1,h2];rfl
  have hk:Data.keyEq .s (.str s) (.str s)=some true:=by simp [Data.keyEq]
  first|refine Ex.testB (false) (Rn.text ?_) (fun h3=> ?_) (fun h3=> ?_)|refine Ex.testB (false) (Rn.draw ?_) (fun h3=> ?_) (fun h3=> ?_)
  ·repeat' (first|refine lk1 hf rfl ?_|refine gx ?_|refine fk (h1:=fun hw=> ?_) (h2:=fun hw=> ?_)|refine fpk (h1:=fun hw=> ?_) (h2:=fun hw=> ?_)|refine ⟨rfl,rfl,_,rfl,?_⟩|refine ⟨rfl,rfl⟩|fail)
   all_goals first|(simp [*,oneOrTuple];done)|(simp_all [oneOrTuple];done)|(simp_all [oneOrTuple,ltB_eq,leB_eq,eqB_eq,seB_eq];done)|(simp_all [oneOrTuple,ltB_eq,leB_eq,eqB_eq,seB_eq]<;>omega)
  ·cases h3
  repeat' (first|refine mp (dmap_put s ds h2) hk (h2:= ?_)|refine gx ?_|fail)
  exact ⟨_,_,rfl,by rw [e1];rfl,by unfold declD;rw [e1,h12];rfl⟩
def cols2 (nm:List Str)(ty:List Int):AVal:= .agg [.d (encL encS nm),.d (ints ty)]
theorem pm111 (c:Cat)(ds:List Str)(ss:List Sto)(s:Str)(nm:List Str)(ty:List Int)(hs:((ss.map (·.1)).any fun y=>seB y s)=false)(hl:ss.length≤1000) :
  Pm A 111 [.ptr 4 0,.d (.str s),cols2 nm ty] (HH c ds ss) lW (.tuple []) (HH c ds (ss++[(s,nm,ty)])):=by
 have hput:=nmap_put s (ss.map (·.1)) 0 hs
 rw [List.length_map,Nat.zero_add] at hput
 have hk:Data.keyEq .s (.str s) (.str s)=some true:=by simp [Data.keyEq]
 have hr:roomFor (ss.length+1) 48=true:=by simp only [roomFor,decide_eq_true_eq];omega
 suffices h:Pq A 111 [.ptr 4 0,.d (.str s),cols2 nm ty] (HH c ds ss) lW fun v H1=>v= .tuple []∧H1=HH c ds (ss++[(s,nm,ty)]) by
  obtain ⟨v,H1,⟨rfl,rfl⟩,h⟩:=h;exact h
 unfold HH
 refine Pq.run (b:=5) [.ptr 4 0,.d (.str s),cols2 nm ty,.any] rfl rfl rfl rfl rfl ?_
 repeat' (first|refine mp hput hk (h2:= ?_)|refine o2 ?_|refine ac2 (a:=(s,nm,ty)) (xs:=ss) (enc:=encSt) hr rfl (h2:= ?_)|refine soO (h2:= ?_)|refine gx ?_|fail)
 refine ⟨_,_,rfl,rfl,?_⟩
 have e:((ss++[(s,nm,ty)]).map (·.1))=ss.map (·.1)++[s]:=by simp
 rw [e]
 rfl
def srcP (ss:List Sto)(s:Str)(col:Int):Int×Int :=
 if ltB (idxS s (ss.map (·.1)) 0) 0 then (0,7)
 else if !withinB col 0 ((nth ss (idxS s (ss.map (·.1)) 0).toNat).2.2.length - 1) then (0,3)
 else (nth (nth ss (idxS s (ss.map (·.1)) 0).toNat).2.2 col.toNat,0)
theorem idx_ss (ss:List Sto)(s:Str):idxS s (ss.map (·.1)) 0= -1∨(0≤idxS s (ss.map (·.1)) 0∧idxS s (ss.map (·.1)) 0<ss.length):=by
 rcases idxS_bound s (ss.map (·.1)) 0 with h|h
 ·exact Or.inl h
 ·right;simp at h;omega
theorem pm121 (c:Cat)(ds:List Str)(ss:List Sto)(s:Str)(col:Int)(hty:∀ k,k<ss.length→(nth ss k).2.2.length≤100000):Pm A 121 [.ptr 4 0,.d (.str s),.d (num col)] (HH c ds ss) lR (.tuple [.d (num (srcP ss s col).1),.d (num (srcP ss s col).2)]) (HH c ds ss):=by
 have p1:=pm61 c ds ss s
 have b1:=idx_ss ss s
 suffices h:Pq A 121 [.ptr 4 0,.d (.str s),.d (num col)] (HH c ds ss) lR fun v H1=>v= .tuple [.d (num (srcP ss s col).1),.d (num (srcP ss s col).2)]∧H1=HH c ds ss by
  obtain ⟨v,H1,⟨rfl,rfl⟩,h⟩:=h;exact h
 unfold HH at p1 ⊢
 refine Pq.run (b:=5) [.ptr 4 0,.d (.str s),.d (num col),.any,.any,.any,.any] rfl rfl rfl rfl rfl ?_
 repeat' (first|refine c1 p1 rfl ?_|refine gx ?_|fail)
 refine tb (ltB (idxS s (ss.map (·.1)) 0) 0) (fun h1=> ?_) (fun h1=> ?_)
 ·repeat' (first|refine gx ?_|fail)
  exact ⟨_,_,rfl,by unfold srcP;rw [h1];rfl,rfl⟩
 have h2:=ltB_f h1
 have h3:=hty (idxS s (ss.map (·.1)) 0).toNat (by omega)
 repeat' (first|refine gx ?_|fail)
 first|refine Ex.testB (!withinB col 0 ((nth ss (idxS s (ss.map (·.1)) 0).toNat).2.2.length - 1)) (Rn.text ?_) (fun h4=> ?_) (fun h4=> ?_)|refine Ex.testB (!withinB col 0 ((nth ss (idxS s (ss.map (·.1)) 0).toNat).2.2.length - 1)) (Rn.draw ?_) (fun h4=> ?_) (fun h4=> ?_)
 ·repeat' (first|refine cl (pf109 _ _ _) ?_|refine gx ?_|refine fk (h1:=fun hw=> ?_) (h2:=fun hw=> ?_)|refine fpk (h1:=fun hw=> ?_) (h2:=fun hw=> ?_)|refine ⟨rfl,rfl,_,rfl,?_⟩|refine ⟨rfl,rfl⟩|fail)
  all_goals first|(simp [*,oneOrTuple];done)|(simp_all [oneOrTuple];done)|(simp_all [oneOrTuple,ltB_eq,leB_eq,eqB_eq,seB_eq];done)|(simp_all [oneOrTuple,ltB_eq,leB_eq,eqB_eq,seB_eq]<;>omega)
 ·repeat' (first|refine gx ?_|fail)
  exact ⟨_,_,rfl,by unfold srcP;rw [h1,h4];rfl,rfl⟩
 have h5:=h4
 simp [withinB,leB_eq] at h5
 repeat' (first|refine gx ?_|fail)
 exact ⟨_,_,rfl,by unfold srcP;rw [h1,h4];rfl,rfl⟩
end Go.Proofs.YtkmclibmmlgogaaGreat
namespace Go.Proofs.YtkmclibmmlgogaaGreat
open Go.Abs Go.Abs.S
attribute [local irreducible] Rx Ry Rn Ex Pf
set_option maxHeartbeats 4000000 in
theorem pf150 (t:Tab)(xs:List Int)(hx:xs.length≤1000)(hc:t.cols.length≤1000):Pf A 150 [tab t,.d (ints xs)] (.d (.bool (ownersB t (-1) xs))):=by
 refine Pf.run [tab t,.d (ints xs),.any,.any,.any,.any,.any,.any,.any,.any] rfl rfl rfl rfl ?_
 repeat' (first|refine gx ?_|fail)
 refine Ex.loopC (fun k T H=>∃ (i:Nat) (p:Int),T=[.any,.any,.ptr 0 0,.any,.d (num p),.any,.any,.d (ints xs),.d (num xs.length),.d (num i)]∧H=[.cells (t.enc.map .d)]∧i+k=xs.length∧ -1≤p∧ownersB t (-1) xs=ownersB t p (xs.drop i)) ?_ (k:=xs.length) ⟨0, -1,rfl,rfl,by simp,by omega,by simp⟩
 rintro k _ _ ⟨i,p,rfl,rfl,hk,hp,hi⟩
 refine Ex.seq ?_
 refine tb (ltB i xs.length) (fun h1=> ?_) (fun h1=> ?_)
 ·have h2:=ltB_t h1
  rw [drop_nth (by omega)] at hi
  repeat' (first|refine gx ?_|fail)
  refine tb (leB (nth xs i) p||leB t.cols.length (nth xs i)) (fun h3=> ?_) (fun h3=> ?_)
  ·repeat' (first|refine gx ?_|fail)
   have h4:(ltB p (nth xs i)&&ltB (nth xs i) t.cols.length)=false:=by simp [leB_eq,ltB_eq] at h3 ⊢;omega
   exact ⟨_,rfl,by rw [hi,ownersB,h4];rfl⟩
  have h4:ltB p (nth xs i)=true∧ltB (nth xs i) t.cols.length=true:=by simp [leB_eq,ltB_eq] at h3 ⊢;omega
  have h5:=ltB_t h4.1
  have h6:=ltB_t h4.2
  repeat' (first|refine gx ?_|fail)
  refine tb (seB (nth t.cols (nth xs i).toNat).space []&&seB (nth t.cols (nth xs i).toNat).refs []) (fun h7=> ?_) (fun h7=> ?_)
  ·repeat' (first|refine gx ?_|fail)
   exact ⟨_,rfl,by rw [hi,ownersB,h4.1,h4.2,h7];rfl⟩
  ·repeat' (first|refine gx ?_|fail)
   exact ⟨k - 1,by omega,_,_,rfl,i+1,nth xs i,rfl,rfl,by omega,by omega,by rw [hi,ownersB,h4.1,h4.2,h7];rfl⟩
 ·repeat' (first|refine gx ?_|fail)
  have h2:=ltB_f h1
  rw [List.drop_of_length_le (by omega)] at hi
  exact ⟨_,rfl,by rw [hi];rfl⟩
def col7 (x:Col):AVal:= .agg (x.enc.map .d)
def rulesB (t:Tab)(x:Col):Bool :=
 if !eqB x.joint 0&&(!eqB x.joint 1|| !ltB 0 x.owners.length) then false
 else if !withinB x.duty 0 1048576 then false
 else if !eqB x.duty 0&& !ltB 0 x.owners.length then false
 else eqB t.retain 0||leB x.duty t.retain
set_option maxHeartbeats 4000000 in
theorem pf151 (t:Tab)(x:Col):Pf A 151 [tab t,col7 x] (.d (.bool (rulesB t x))):=by
 refine Pf.run [tab t,col7 x,.any,.any,.any,.any] rfl rfl rfl rfl ?_
 repeat' (first|refine gx ?_|fail)
 refine tb (!eqB x.joint 0&&(!eqB x.joint 1|| !ltB 0 x.owners.length)) (fun h1=> ?_) (fun h1=> ?_)
 ·repeat' (first|refine gx ?_|fail)
  exact ⟨_,rfl,by unfold rulesB;rw [h1];rfl⟩
 first|refine Ex.testB (!withinB x.duty 0 1048576) (Rn.text ?_) (fun h2=> ?_) (fun h2=> ?_)|refine Ex.testB (!withinB x.duty 0 1048576) (Rn.draw ?_) (fun h2=> ?_) (fun h2=> ?_)
 ·repeat' (first|refine cl (pf109 _ _ _) ?_|refine gx ?_|refine fk (h1:=fun hw=> ?_) (h2:=fun hw=> ?_)|refine fpk (h1:=fun hw=> ?_) (h2:=fun hw=> ?_)|refine ⟨rfl,rfl,_,rfl,?_⟩|refine ⟨rfl,rfl⟩|fail)
  all_goals first|(simp [*,oneOrTuple];done)|(simp_all [oneOrTuple];done)|(simp_all [oneOrTuple,ltB_eq,leB_eq,eqB_eq,seB_eq];done)|(simp_all [oneOrTuple,ltB_eq,leB_eq,eqB_eq,seB_eq]<;>omega)
 ·repeat' (first|refine gx ?_|fail)
  exact ⟨_,rfl,by unfold rulesB;rw [h1,h2];rfl⟩
 refine tb (!eqB x.duty 0&& !ltB 0 x.owners.length) (fun h3=> ?_) (fun h3=> ?_)
 ·repeat' (first|refine gx ?_|fail)
  exact ⟨_,rfl,by unfold rulesB;rw [h1,h2,h3];rfl⟩
 repeat' (first|refine gx ?_|refine fk (h1:=fun hw=> ?_) (h2:=fun hw=> ?_)|refine fpk (h1:=fun hw=> ?_) (h2:=fun hw=> ?_)|refine Ex.condP ?_|refine Ex.condN ?_|refine Ex.cond rfl (fun ht=> ?_) (fun ht=> ?_)|refine Ex.test (Rn.text ?_)|refine Ex.test (Rn.draw ?_)|refine ⟨_,rfl,fun ht=> ?_,fun ht=> ?_⟩|refine ⟨_,rfl,?_⟩|fail)
 all_goals unfold rulesB
 all_goals rw [h1,h2,h3]
 all_goals simp [*,oneOrTuple]
end Go.Proofs.YtkmclibmmlgogaaGreat
namespace Go.Proofs.YtkmclibmmlgogaaGreat
open Go.Abs Go.Abs.S
attribute [local irreducible] Rx Ry Rn Ex Pf
def l7:Lim:=⟨0,7,7,7⟩
theorem pm148 (a0 a1 a2 a3 a4 a5:AObj)(x y:Col):Pm A 148 [col7 y,.ptr 6 0] [a0,a1,a2,a3,a4,a5,.cells (x.enc.map .d)] l7 (.d (.bool (seB y.name x.name))) [a0,a1,a2,a3,a4,a5,.cells (x.enc.map .d)]:=by
 suffices h:Pq A 148 [col7 y,.ptr 6 0] [a0,a1,a2,a3,a4,a5,.cells (x.enc.map .d)] l7 fun v H1=>v= .d (.bool (seB y.name x.name))∧H1=[a0,a1,a2,a3,a4,a5,.cells (x.enc.map .d)] by
  obtain ⟨v,H1,⟨rfl,rfl⟩,h⟩:=h;exact h
 refine Pq.run (b:=7) [col7 y,.ptr 6 0,.any,.any] rfl rfl rfl rfl rfl ?_
 repeat' (first|refine gx ?_|fail)
 exact ⟨_,_,rfl,rfl,rfl⟩
def fiC (x:Col):List Col→Nat→Int
 |[],_=> -1
 |y::r,i=>if seB y.name x.name then i else fiC x r (i+1)
theorem fiC_any (x:Col):∀ (l:List Col) (i:Nat),leB 0 (fiC x l i)=l.any fun y=>seB y.name x.name
 |[],i=>by simp [fiC,leB_eq]
 |y::r,i=>by
  have h1:=fiC_any x r (i+1)
  simp only [fiC,List.any_cons]
  cases h3:seB y.name x.name with
  |true=>simp [leB_eq]
  |false=>simpa using h1
set_option maxHeartbeats 2000000 in
theorem pm171 (a0 a1 a2 a3 a4 a5:AObj)(x:Col)(ys:List Col)(hy:ys.length≤1000):Pm A 171 [.d (encL Col.enc ys),.func 148 [] [.ptr 6 0]] [a0,a1,a2,a3,a4,a5,.cells (x.enc.map .d)] l7 (.d (num (fiC x ys 0))) [a0,a1,a2,a3,a4,a5,.cells (x.enc.map .d)]:=by
 suffices h:Pq A 171 [.d (encL Col.enc ys),.func 148 [] [.ptr 6 0]] [a0,a1,a2,a3,a4,a5,.cells (x.enc.map .d)] l7 fun v H1=>v= .d (num (fiC x ys 0))∧H1=[a0,a1,a2,a3,a4,a5,.cells (x.enc.map .d)] by
  obtain ⟨v,H1,⟨rfl,rfl⟩,h⟩:=h;exact h
 refine Pq.run (b:=7) [.d (encL Col.enc ys),.func 148 [] [.ptr 6 0],.any,.any,.any,.any] rfl rfl rfl rfl rfl ?_
 repeat' (first|refine gx ?_|fail)
 refine Ex.loopS (fun k T H=>∃ (i:Nat) (v w:AVal),T=[.d (encL Col.enc ys),.func 148 [] [.ptr 6 0],v,w,.d (num ys.length),.d (num i)]∧H=[a0,a1,a2,a3,a4,a5,.cells (x.enc.map .d)]∧i+k=ys.length∧fiC x ys 0=fiC x (ys.drop i) i) (by rintro _ _ _ ⟨_,_,_,_,rfl,_⟩;rfl) ?_ (k:=ys.length) ⟨0,_,_,rfl,rfl,by simp,by simp⟩
 rintro k _ _ ⟨i,v,w,rfl,rfl,hk,hi⟩
 refine Ex.nT ?_
 refine Ex.seq ?_
 refine tb (ltB i ys.length) (fun h1=> ?_) (fun h1=> ?_)
 ·have h2:=ltB_t h1
  rw [drop_nth (by omega)] at hi
  have p1:=pm148 a0 a1 a2 a3 a4 a5 x (nth ys i)
  repeat' (first|refine gx ?_|fail)
  first|refine Ex.testB (seB (nth ys i).name x.name) (Rn.text ?_) (fun h3=> ?_) (fun h3=> ?_)|refine Ex.testB (seB (nth ys i).name x.name) (Rn.draw ?_) (fun h3=> ?_) (fun h3=> ?_)
  ·repeat' (first|refine cv1 p1 rfl ?_|refine gx ?_|refine fk (h1:=fun hw=> ?_) (h2:=fun hw=> ?_)|refine fpk (h1:=fun hw=> ?_) (h2:=fun hw=> ?_)|refine ⟨rfl,rfl,_,rfl,?_⟩|refine ⟨rfl,rfl⟩|fail)
   all_goals first|(simp [*,oneOrTuple];done)|(simp_all [oneOrTuple];done)|(simp_all [oneOrTuple,ltB_eq,leB_eq,eqB_eq,seB_eq];done)|(simp_all [oneOrTuple,ltB_eq,leB_eq,eqB_eq,seB_eq]<;>omega)
  ·repeat' (first|refine gx ?_|fail)
   exact ⟨_,_,rfl,by rw [hi,fiC,h3];rfl,rfl⟩
  ·repeat' (first|refine gx ?_|fail)
   exact ⟨k - 1,by omega,i+1,_,_,rfl,rfl,by omega,by rw [hi,fiC,h3];rfl⟩
 ·have h2:=ltB_f h1
  rw [List.drop_of_length_le (by omega)] at hi
  repeat' (first|refine gx ?_|fail)
  exact ⟨_,_,rfl,by rw [hi];rfl,rfl⟩
theorem pm147 (a0 a1 a2 a3 a4 a5:AObj)(x:Col)(ys:List Col)(hy:ys.length≤1000):Pm A 147 [.d (encL Col.enc ys),.func 148 [] [.ptr 6 0]] [a0,a1,a2,a3,a4,a5,.cells (x.enc.map .d)] l7 (.d (.bool (ys.any fun y=>seB y.name x.name))) [a0,a1,a2,a3,a4,a5,.cells (x.enc.map .d)]:=by
 have p1:=pm171 a0 a1 a2 a3 a4 a5 x ys hy
 rw [← fiC_any x ys 0]
 suffices h:Pq A 147 [.d (encL Col.enc ys),.func 148 [] [.ptr 6 0]] [a0,a1,a2,a3,a4,a5,.cells (x.enc.map .d)] l7 fun v H1=>v= .d (.bool (leB 0 (fiC x ys 0)))∧H1=[a0,a1,a2,a3,a4,a5,.cells (x.enc.map .d)] by
  obtain ⟨v,H1,⟨rfl,rfl⟩,h⟩:=h;exact h
 refine Pq.run (b:=7) [.d (encL Col.enc ys),.func 148 [] [.ptr 6 0],.any] rfl rfl rfl rfl rfl ?_
 repeat' (first|refine c1 p1 rfl ?_|refine gx ?_|fail)
 exact ⟨_,_,rfl,rfl,rfl⟩
theorem pf113 (x:Col):Pf A 113 [col7 x] (.d (.str x.name)):=by
 refine Pf.run [col7 x,.any,.any] rfl rfl rfl rfl ?_
 repeat' (first|refine gx ?_|fail)
 exact ⟨_,rfl,rfl⟩
theorem pf115 (x:Col):Pf A 115 [col7 x] (.d (num x.type)):=by
 refine Pf.run [col7 x,.any,.any] rfl rfl rfl rfl ?_
 repeat' (first|refine gx ?_|fail)
 exact ⟨_,rfl,rfl⟩
set_option maxHeartbeats 2000000 in
theorem pf112 (xs:List Col)(hx:xs.length≤1000):Pf A 112 [.d (encL Col.enc xs),.func 113 [] []] (.d (encL encS (xs.map Col.name))):=by
 refine Pf.run [.d (encL Col.enc xs),.func 113 [] [],.any,.any,.any,.any,.any,.any] rfl rfl rfl rfl ?_
 repeat' (first|refine gx ?_|fail)
 refine Ex.loopC (fun k T H=>∃ (i:Nat) (acc:List Str),T=[.any,.func 113 [] [],.any,ownL 1 encS acc,.any,.d (encL Col.enc xs),.d (num xs.length),.d (num i)]∧H=[]∧i+k=xs.length∧acc=(xs.take i).map Col.name) ?_ (k:=xs.length) ⟨0,[],rfl,rfl,by simp,by simp⟩
 rintro k _ _ ⟨i,acc,rfl,rfl,hk,hacc⟩
 have hl:acc.length=i:=by rw [hacc];simp;omega
 refine Ex.seq ?_
 refine tb (ltB i xs.length) (fun h1=> ?_) (fun h1=> ?_)
 ·have h2:=ltB_t h1
  have p1:=pf113 (nth xs i)
  repeat' (first|refine cv p1 ?_|refine gx ?_|fail)
  exact ⟨k - 1,by omega,_,_,rfl,i+1,acc++[(nth xs i).name],rfl,rfl,by omega,by rw [take_nth (by omega),hacc];simp⟩
 ·have h2:=ltB_f h1
  rw [List.take_of_length_le (by omega)] at hacc
  repeat' (first|refine gx ?_|fail)
  exact ⟨_,rfl,by rw [← hacc];rfl⟩
set_option maxHeartbeats 2000000 in
theorem pf114 (xs:List Col)(hx:xs.length≤1000):Pf A 114 [.d (encL Col.enc xs),.func 115 [] []] (.d (ints (xs.map Col.type))):=by
 refine Pf.run [.d (encL Col.enc xs),.func 115 [] [],.any,.any,.any,.any,.any,.any] rfl rfl rfl rfl ?_
 repeat' (first|refine gx ?_|fail)
 refine Ex.loopC (fun k T H=>∃ (i:Nat) (acc:List Int),T=[.any,.func 115 [] [],.any,ownL 1 (fun n=>[num n]) acc,.any,.d (encL Col.enc xs),.d (num xs.length),.d (num i)]∧H=[]∧i+k=xs.length∧acc=(xs.take i).map Col.type) ?_ (k:=xs.length) ⟨0,[],rfl,rfl,by simp,by simp⟩
 rintro k _ _ ⟨i,acc,rfl,rfl,hk,hacc⟩
 have hl:acc.length=i:=by rw [hacc];simp;omega
 refine Ex.seq ?_
 refine tb (ltB i xs.length) (fun h1=> ?_) (fun h1=> ?_)
 ·have h2:=ltB_t h1
  have p1:=pf115 (nth xs i)
  repeat' (first|refine cv p1 ?_|refine gx ?_|fail)
  exact ⟨k - 1,by omega,_,_,rfl,i+1,acc++[(nth xs i).type],rfl,rfl,by omega,by rw [take_nth (by omega),hacc];simp⟩
 ·have h2:=ltB_f h1
  rw [List.take_of_length_le (by omega)] at hacc
  repeat' (first|refine gx ?_|fail)
  exact ⟨_,rfl,by rw [← hacc];rfl⟩
end Go.Proofs.YtkmclibmmlgogaaGreat
