/-
  The program's columns of tables; tables.; The program's tables.
  (Put together by a small program out of several texts; blanks left out to keep the folder small.)
-/
import Derived.Test.YtkmclibmmlgogaaGreatD7
import Derived.Test.YtkmclibmmlgogaaGreatD8
import Derived.Test.YtkmclibmmlgogaaGreatB6
set_option linter.unusedVariables false
set_option linter.unusedSimpArgs false
namespace Go.Proofs.YtkmclibmmlgogaaGreat
open Go.Abs Go.Abs.S
attribute [local irreducible] Rx Ry Rn Ex Pf
def colP (c:Cat)(ss:List Sto)(t:Tab)(i:Nat):Int :=
 if !isNameB (nth t.cols i).name||(!seB (nth t.cols i).space []&& !isNameB (nth t.cols i).space) then 3
 else if (t.cols.take i).any fun y=>seB y.name (nth t.cols i).name then 4
 else if !seB (nth t.cols i).refs []&&ltB (idxS (nth t.cols i).refs (ss.map (·.1)) 0) 0 then 7
 else if !(eqB (nth t.cols i).type 1||eqB (nth t.cols i).type 2)||(leB 0 (idxS (nth t.cols i).refs (ss.map (·.1)) 0)&& !eqB (nth t.cols i).type (nth (nth ss (idxS (nth t.cols i).refs (ss.map (·.1)) 0).toNat).2.2 0)) then 5
 else if (!seB (nth t.cols i).space []&& !seB (nth t.cols i).refs [])|| !ownersB t (-1) (nth t.cols i).owners|| !rulesB t (nth t.cols i) then 1
 else if eqB i 0&&ltB 0 (nth t.cols i).owners.length&& !eqB t.erase 1 then 1
 else if leB 0 (idxS (nth t.cols i).refs (ss.map (·.1)) 0)&&ltB 0 (nth (nth c.tabs (idxS (nth t.cols i).refs (ss.map (·.1)) 0).toNat).cols 0).owners.length&& !((nth t.cols i).owners.any fun y=>eqB y i) then 1
 else 0
set_option maxHeartbeats 8000000 in
theorem pm110 (c:Cat)(ds:List Str)(ss:List Sto)(t:Tab)(i:Nat)(hi:i<t.cols.length)(hc:t.cols.length≤1000)(ho:(nth t.cols i).owners.length≤1000)(hss:ss.length≤c.tabs.length)(ht:∀ k,k<ss.length→0<(nth ss k).2.2.length∧0<(nth c.tabs k).cols.length) :
  Pm A 110 [.ptr 4 0,tab t,.d (num i)] (HH c ds ss) lR (.d (num (colP c ss t i))) (HH c ds ss):=by
 have p61:=pm61 c ds ss (nth t.cols i).refs
 have b1:=idx_ss ss (nth t.cols i).refs
 have b2:(idxS (nth t.cols i).refs (ss.map (·.1)) 0)= -1∨(0≤(idxS (nth t.cols i).refs (ss.map (·.1)) 0)∧(idxS (nth t.cols i).refs (ss.map (·.1)) 0)<ss.length∧0<(nth ss (idxS (nth t.cols i).refs (ss.map (·.1)) 0).toNat).2.2.length∧0<(nth c.tabs (idxS (nth t.cols i).refs (ss.map (·.1)) 0).toNat).cols.length):=by
  rcases b1 with h|h
  ·exact Or.inl h
  ·have:=ht (idxS (nth t.cols i).refs (ss.map (·.1)) 0).toNat (by omega)
   exact Or.inr ⟨h.1,h.2,this.1,this.2⟩
 have q150:=pf150 t (nth t.cols i).owners ho hc
 have q151:=pf151 t (nth t.cols i)
 have q49:=pf49 (nth t.cols i).owners i (by omega)
 suffices h:Pq A 110 [.ptr 4 0,tab t,.d (num i)] (HH c ds ss) lR fun v H1=>v= .d (num (colP c ss t i))∧H1=HH c ds ss by
  obtain ⟨v,H1,⟨rfl,rfl⟩,h⟩:=h;exact h
 unfold HH at *
 have q147:=pm147 (.cells (c.enc.map .d)) (.cells (c.enc.map .d)) (.map (dmap ds)) (.map (nmap (ss.map (·.1)) 0)) (.cells (c.enc.map .d++[.map 2,.map 3,ownL 2 encSt ss])) (.cells (t.enc.map .d)) (nth t.cols i) (t.cols.take i) (by simp;omega)
 refine Pq.run (b:=5) [.ptr 4 0,tab t,.d (num i),.any,.any,.any,.any,.any] rfl rfl rfl rfl rfl ?_
 repeat' (first|refine gx ?_|fail)
 first|refine Ex.testB (!isNameB (nth t.cols i).name||(!seB (nth t.cols i).space []&& !isNameB (nth t.cols i).space)) (Rn.text ?_) (fun h1=> ?_) (fun h1=> ?_)|refine Ex.testB (!isNameB (nth t.cols i).name||(!seB (nth t.cols i).space []&& !isNameB (nth t.cols i).space)) (Rn.draw ?_) (fun h1=> ?_) (fun h1=> ?_)
 ·repeat' (first|refine cl (pf146 _) ?_|refine gx ?_|refine fk (h1:=fun hw=> ?_) (h2:=fun hw=> ?_)|refine fpk (h1:=fun hw=> ?_) (h2:=fun hw=> ?_)|refine ⟨rfl,rfl,_,rfl,?_⟩|refine ⟨rfl,rfl⟩|fail)
  all_goals first|(simp [*,oneOrTuple];done)|(simp_all [oneOrTuple];done)|(simp_all [oneOrTuple,ltB_eq,leB_eq,eqB_eq,seB_eq];done)|(simp_all [oneOrTuple,ltB_eq,leB_eq,eqB_eq,seB_eq]<;>omega)
 ·repeat' (first|refine gx ?_|fail)
  exact ⟨_,_,rfl,by unfold colP;rw [h1];rfl,rfl⟩
 repeat' (first|refine gx ?_|fail)
 first|refine Ex.testB ((t.cols.take i).any fun y=>seB y.name (nth t.cols i).name) (Rn.text ?_) (fun h2=> ?_) (fun h2=> ?_)|refine Ex.testB ((t.cols.take i).any fun y=>seB y.name (nth t.cols i).name) (Rn.draw ?_) (fun h2=> ?_) (fun h2=> ?_)
 ·repeat' (first|refine c1 q147 rfl ?_|refine gx ?_|refine fk (h1:=fun hw=> ?_) (h2:=fun hw=> ?_)|refine fpk (h1:=fun hw=> ?_) (h2:=fun hw=> ?_)|refine ⟨rfl,rfl,_,rfl,?_⟩|refine ⟨rfl,rfl⟩|fail)
  all_goals first|(simp [*,oneOrTuple];done)|(simp_all [oneOrTuple];done)|(simp_all [oneOrTuple,ltB_eq,leB_eq,eqB_eq,seB_eq];done)|(simp_all [oneOrTuple,ltB_eq,leB_eq,eqB_eq,seB_eq]<;>omega)
 ·repeat' (first|refine gx ?_|fail)
  exact ⟨_,_,rfl,by unfold colP;rw [h1,h2];rfl,rfl⟩
 repeat' (first|refine c1 p61 rfl ?_|refine gx ?_|fail)
 refine tb (!seB (nth t.cols i).refs []&&ltB (idxS (nth t.cols i).refs (ss.map (·.1)) 0) 0) (fun h3=> ?_) (fun h3=> ?_)
 ·repeat' (first|refine gx ?_|fail)
  exact ⟨_,_,rfl,by unfold colP;rw [h1,h2,h3];rfl,rfl⟩
 repeat' (first|refine gx ?_|fail)
 first|refine Ex.testB (!(eqB (nth t.cols i).type 1||eqB (nth t.cols i).type 2)||(leB 0 (idxS (nth t.cols i).refs (ss.map (·.1)) 0)&& !eqB (nth t.cols i).type (nth (nth ss (idxS (nth t.cols i).refs (ss.map (·.1)) 0).toNat).2.2 0))) (Rn.text ?_) (fun h4=> ?_) (fun h4=> ?_)|refine Ex.testB (!(eqB (nth t.cols i).type 1||eqB (nth t.cols i).type 2)||(leB 0 (idxS (nth t.cols i).refs (ss.map (·.1)) 0)&& !eqB (nth t.cols i).type (nth (nth ss (idxS (nth t.cols i).refs (ss.map (·.1)) 0).toNat).2.2 0))) (Rn.draw ?_) (fun h4=> ?_) (fun h4=> ?_)
 ·repeat' (first|refine cl (pf149 _) ?_|refine gx ?_|refine fk (h1:=fun hw=> ?_) (h2:=fun hw=> ?_)|refine fpk (h1:=fun hw=> ?_) (h2:=fun hw=> ?_)|refine ⟨rfl,rfl,_,rfl,?_⟩|refine ⟨rfl,rfl⟩|fail)
  all_goals first|(simp [*,oneOrTuple];done)|(simp_all [oneOrTuple];done)|(simp_all [oneOrTuple,ltB_eq,leB_eq,eqB_eq,seB_eq];done)|(simp_all [oneOrTuple,ltB_eq,leB_eq,eqB_eq,seB_eq]<;>omega)
 ·repeat' (first|refine gx ?_|fail)
  exact ⟨_,_,rfl,by unfold colP;rw [h1,h2,h3,h4];rfl,rfl⟩
 repeat' (first|refine gx ?_|fail)
 first|refine Ex.testB ((!seB (nth t.cols i).space []&& !seB (nth t.cols i).refs [])|| !ownersB t (-1) (nth t.cols i).owners|| !rulesB t (nth t.cols i)) (Rn.text ?_) (fun h5=> ?_) (fun h5=> ?_)|refine Ex.testB ((!seB (nth t.cols i).space []&& !seB (nth t.cols i).refs [])|| !ownersB t (-1) (nth t.cols i).owners|| !rulesB t (nth t.cols i)) (Rn.draw ?_) (fun h5=> ?_) (fun h5=> ?_)
 ·repeat' (first|refine cl (q150) ?_|refine cl (q151) ?_|refine gx ?_|refine fk (h1:=fun hw=> ?_) (h2:=fun hw=> ?_)|refine fpk (h1:=fun hw=> ?_) (h2:=fun hw=> ?_)|refine ⟨rfl,rfl,_,rfl,?_⟩|refine ⟨rfl,rfl⟩|fail)
  all_goals first|(simp [*,oneOrTuple];done)|(simp_all [oneOrTuple];done)|(simp_all [oneOrTuple,ltB_eq,leB_eq,eqB_eq,seB_eq];done)|(simp_all [oneOrTuple,ltB_eq,leB_eq,eqB_eq,seB_eq]<;>omega)
 ·repeat' (first|refine gx ?_|fail)
  exact ⟨_,_,rfl,by unfold colP;rw [h1,h2,h3,h4,h5];rfl,rfl⟩
 repeat' (first|refine gx ?_|fail)
 refine tb (eqB i 0&&ltB 0 (nth t.cols i).owners.length&& !eqB t.erase 1) (fun h6=> ?_) (fun h6=> ?_)
 ·repeat' (first|refine gx ?_|fail)
  exact ⟨_,_,rfl,by unfold colP;rw [h1,h2,h3,h4,h5,h6];rfl,rfl⟩
 repeat' (first|refine gx ?_|fail)
 first|refine Ex.testB (leB 0 (idxS (nth t.cols i).refs (ss.map (·.1)) 0)&&ltB 0 (nth (nth c.tabs (idxS (nth t.cols i).refs (ss.map (·.1)) 0).toNat).cols 0).owners.length&& !((nth t.cols i).owners.any fun y=>eqB y i)) (Rn.text ?_) (fun h7=> ?_) (fun h7=> ?_)|refine Ex.testB (leB 0 (idxS (nth t.cols i).refs (ss.map (·.1)) 0)&&ltB 0 (nth (nth c.tabs (idxS (nth t.cols i).refs (ss.map (·.1)) 0).toNat).cols 0).owners.length&& !((nth t.cols i).owners.any fun y=>eqB y i)) (Rn.draw ?_) (fun h7=> ?_) (fun h7=> ?_)
 ·repeat' (first|refine cl (q49) ?_|refine gx ?_|refine fk (h1:=fun hw=> ?_) (h2:=fun hw=> ?_)|refine fpk (h1:=fun hw=> ?_) (h2:=fun hw=> ?_)|refine ⟨rfl,rfl,_,rfl,?_⟩|refine ⟨rfl,rfl⟩|fail)
  all_goals first|(simp [*,oneOrTuple];done)|(simp_all [oneOrTuple];done)|(simp_all [oneOrTuple,ltB_eq,leB_eq,eqB_eq,seB_eq];done)|(simp_all [oneOrTuple,ltB_eq,leB_eq,eqB_eq,seB_eq]<;>omega)
 ·repeat' (first|refine gx ?_|fail)
  exact ⟨_,_,rfl,by unfold colP;rw [h1,h2,h3,h4,h5,h6,h7];rfl,rfl⟩
 repeat' (first|refine gx ?_|fail)
 exact ⟨_,_,rfl,by unfold colP;rw [h1,h2,h3,h4,h5,h6,h7];rfl,rfl⟩
end Go.Proofs.YtkmclibmmlgogaaGreat
namespace Go.Proofs.YtkmclibmmlgogaaGreat
open Go.Abs Go.Abs.S
attribute [local irreducible] Rx Ry Rn Ex Pf
def colsP (c:Cat)(ss:List Sto)(t:Tab):Nat→Nat→Int
 |0,_=>0
 |k+1,i=>if !eqB (colP c ss t i) 0 then colP c ss t i else colsP c ss t k (i+1)
def tabBad (t:Tab):Bool:= !withinB t.cols.length 1 8||(!eqB t.erase 0&& !eqB t.erase 1)|| !withinB t.retain 0 1048576
def tabM (c:Cat)(ss:List Sto)(ds:List Str)(t:Tab):Int :=
 if !eqB (declE ds t.name) 0 then declE ds t.name else if tabBad t then 1 else colsP c ss t t.cols.length 0
def tabS (c:Cat)(ss:List Sto)(ds:List Str)(t:Tab):List Sto:=if eqB (tabM c ss ds t) 0 then ss++[(t.name,t.cols.map Col.name,t.cols.map Col.type)] else ss
set_option maxHeartbeats 8000000 in
theorem pm68 (c:Cat)(ds:List Str)(ss:List Sto)(i:Nat)(hi:i<c.tabs.length)(hc:(nth c.tabs i).cols.length≤1000)(ho:∀ j,j<(nth c.tabs i).cols.length→(nth (nth c.tabs i).cols j).owners.length≤1000)(hss:ss.length≤c.tabs.length)(hss2:ss.length≤1000)(hi2:c.tabs.length≤1000)
  (ht:∀ k,k<ss.length→0<(nth ss k).2.2.length∧0<(nth c.tabs k).cols.length) (hsub:∀ s,(ds.any fun y=>seB y s)=false→((ss.map (·.1)).any fun y=>seB y s)=false) :
  Pm A 68 [.ptr 4 0,.d (num i)] (HH c ds ss) lW (.d (num (tabM c ss ds (nth c.tabs i)))) (HH c (declD ds (nth c.tabs i).name) (tabS c ss ds (nth c.tabs i))):=by
 generalize hx:nth c.tabs i=t at *
 have p108:=pm108 c ds ss t.name
 have p110:∀ j,j<t.cols.length→Pm A 110 [.ptr 4 0,tab t,.d (num j)] (HH c (declD ds t.name) ss) lR (.d (num (colP c ss t j))) (HH c (declD ds t.name) ss):=fun j hj=>pm110 c (declD ds t.name) ss t j hj hc (ho j hj) hss ht
 have q112:=pf112 t.cols hc
 have q114:=pf114 t.cols hc
 have p111:declE ds t.name=0→Pm A 111 [.ptr 4 0,.d (.str t.name),cols2 (t.cols.map Col.name) (t.cols.map Col.type)] (HH c (declD ds t.name) ss) lW (.tuple []) (HH c (declD ds t.name) (ss++[(t.name,t.cols.map Col.name,t.cols.map Col.type)])):=fun h=>by
  refine pm111 c (declD ds t.name) ss t.name _ _ (hsub _ ?_) hss2
  unfold declE at h
  cases h1:(!isNameB t.name) with
  |true=>rw [h1] at h;simp at h
  |false =>
   rw [h1] at h
   cases h2:ds.any fun y=>seB y t.name with
   |false=>rfl
   |true=>rw [h2] at h;simp at h
 suffices h:Pq A 68 [.ptr 4 0,.d (num i)] (HH c ds ss) lW fun v H1=>v= .d (num (tabM c ss ds t))∧H1=HH c (declD ds t.name) (tabS c ss ds t) by
  obtain ⟨v,H1,⟨rfl,rfl⟩,h⟩:=h;exact h
 have fin:∀ e:Int,eqB e 0=false→tabM c ss ds t=e→tabS c ss ds t=ss:=fun e h1 h2=>by unfold tabS;rw [h2,h1];rfl
 unfold HH at *
 refine Pq.run (b:=5) [.ptr 4 0,.d (num i),.any,.any,.any,.any,.any,.any,.any] rfl rfl rfl rfl rfl ?_
 repeat' (first|refine gx ?_|fail)
 rw [hx]
 repeat' (first|refine c0 p108 rfl (h2:= ?_)|refine gx ?_|fail)
 refine tb (!eqB (declE ds t.name) 0) (fun h1=> ?_) (fun h1=> ?_)
 ·have e1:tabM c ss ds t=declE ds t.name:=by unfold tabM;rw [h1];rfl
  repeat' (first|refine gx ?_|fail)
  exact ⟨_,_,rfl,by rw [e1];rfl,by rw [fin _ (by simpa using h1) e1];rfl⟩
 repeat' (first|refine gx ?_|fail)
 first|refine Ex.testB (tabBad t) (Rn.text ?_) (fun h2=> ?_) (fun h2=> ?_)|refine Ex.testB (tabBad t) (Rn.draw ?_) (fun h2=> ?_) (fun h2=> ?_)
 ·repeat' (first|refine cl (pf109 _ _ _) ?_|refine gx ?_|refine fk (h1:=fun hw=> ?_) (h2:=fun hw=> ?_)|refine fpk (h1:=fun hw=> ?_) (h2:=fun hw=> ?_)|refine ⟨rfl,rfl,_,rfl,?_⟩|refine ⟨rfl,rfl⟩|fail)
  all_goals first|(simp [*,oneOrTuple,tabBad];done)|(simp_all [oneOrTuple,tabBad];done)|(simp_all [oneOrTuple,tabBad,ltB_eq,leB_eq,eqB_eq,seB_eq];done)|(simp_all [oneOrTuple,tabBad,ltB_eq,leB_eq,eqB_eq,seB_eq]<;>omega)
 ·have e1:tabM c ss ds t=1:=by unfold tabM;rw [h1,h2];rfl
  repeat' (first|refine gx ?_|fail)
  exact ⟨_,_,rfl,by rw [e1];rfl,by rw [fin 1 (by simp [eqB_eq]) e1];rfl⟩
 repeat' (first|refine gx ?_|fail)
 refine Ex.loopS (fun k T H=>∃ (j:Nat) (w1 w2 w4 w5 w6:AVal),T=[.ptr 4 0,w1,w2,.ptr 5 0,w4,w5,w6,.d (num t.cols.length),.d (num j)]∧H=[.cells (c.enc.map .d),.cells (c.enc.map .d),.map (dmap (declD ds t.name)),.map (nmap (ss.map (·.1)) 0),.cells (c.enc.map .d++[.map 2,.map 3,ownL 2 encSt ss]),.cells (t.enc.map .d)]∧j+k=t.cols.length∧tabM c ss ds t=colsP c ss t k j) (by rintro _ _ _ ⟨_,_,_,_,_,_,_,rfl,_⟩;rfl) ?_ (k:=t.cols.length) ⟨0,_,_,_,_,_,rfl,rfl,by simp,by unfold tabM;rw [h1,h2];rfl⟩
 rintro k _ _ ⟨j,w1,w2,w4,w5,w6,rfl,rfl,hk,hj⟩
 refine Ex.nT ?_
 refine Ex.seq ?_
 refine tb (ltB j t.cols.length) (fun h3=> ?_) (fun h3=> ?_)
 ·have h4:=ltB_t h3
  obtain ⟨k,rfl⟩:∃ k',k=k' +1:=⟨k - 1,by omega⟩
  have q110:=p110 j (by omega)
  rw [colsP] at hj
  repeat' (first|refine c1 q110 rfl ?_|refine gx ?_|fail)
  refine tb (!eqB (colP c ss t j) 0) (fun h5=> ?_) (fun h5=> ?_)
  ·rw [h5,if_pos rfl] at hj
   repeat' (first|refine gx ?_|fail)
   exact ⟨_,_,rfl,by rw [hj];rfl,by rw [fin _ (by simpa using h5) hj];rfl⟩
  ·rw [h5,if_neg (by simp)] at hj
   repeat' (first|refine gx ?_|fail)
   exact ⟨k,by omega,j+1,_,_,_,_,_,rfl,rfl,by omega,hj⟩
 ·have h4:=ltB_f h3
  obtain rfl:k=0:=by omega
  have q111:=p111 (eqB_t (by simpa using h1))
  have e1:tabM c ss ds t=0:=hj
  have e2:tabS c ss ds t=ss++[(t.name,t.cols.map Col.name,t.cols.map Col.type)]:=by unfold tabS;rw [e1];simp [eqB_eq]
  rw [e2]
  repeat' (first|refine cl (q112) ?_|refine cl (q114) ?_|refine c0 q111 rfl (h2:= ?_)|refine gx ?_|fail)
  exact ⟨_,_,rfl,by rw [e1];rfl,rfl⟩
end Go.Proofs.YtkmclibmmlgogaaGreat
