/-
  The reference's checks of tables.; The reference's checks of tables and of the shape of views.
  (Put together by a small program out of several texts; blanks left out to keep the folder small.)
-/
import Derived.Test.YtkmclibmmlgogaaGreatD0
import Derived.Test.YtkmclibmmlgogaaGreatB6
set_option linter.unusedVariables false
set_option linter.unusedSimpArgs false
namespace Go.Proofs.YtkmclibmmlgogaaGreat
open Go.Abs Go.Abs.S
attribute [local irreducible] Rx Ry Rn Ex Pf
def Cat.sn (c:Cat):List Str:=c.tabs.map Tab.name++c.views.map Vw.name
def Cat.ns (c:Cat):Nat:=c.tabs.length+c.views.length
def idxS (name:Str):List Str→Nat→Int
 |[],_=> -1
 |x::r,i=>if seB x name then i else idxS name r (i+1)
def findC (c:Cat)(name:Str)(n:Nat):Int:=idxS name ((Cat.sn c).take n) 0
theorem sn_len (c:Cat):(Cat.sn c).length=Cat.ns c:=by simp [Cat.sn,Cat.ns]
theorem names_sn (c:Cat){i:Nat}(h:i<Cat.ns c):nth c.names i=nth (Cat.sn c) i:=by
 have h1:c.names=Cat.sn c++(c.idxs.map Idx.name++c.skts.map Skt.name++c.cchs.map Cch.name++c.rlss.map Rls.name++c.stms.map Stm.name++c.bkps.map Bkp.name):=by simp [Cat.names,Cat.sn]
 have h2:i<(Cat.sn c).length:=by rw [sn_len];exact h
 rw [h1,nth_eq h2,nth_eq (by simp;omega),List.getElem_append_left h2]
theorem names_len (c:Cat):Cat.ns c≤c.names.length:=by simp [Cat.names,Cat.ns]
theorem pf84 (c:Cat)(name:Str)(n:Nat)(hf:c.few)(hn:n≤100000):Pf A 84 [cat c,.d (.str name),.d (num n)] (.d (num (findC c name n))):=by
 have hl:=names_len c
 have hc:Cat.ns c≤2000:=by obtain ⟨f0,f1,_⟩:=hf;unfold Cat.ns;omega
 have hs:=sn_len c
 have hc' :c.tabs.length+c.views.length≤2000:=hc
 refine Pf.run [cat c,.d (.str name),.d (num n),.any,.any,.any,.any] rfl rfl rfl rfl ?_
 repeat' (first|refine cl (pf63 c hf) ?_|refine gx ?_|fail)
 refine Ex.loopS (fun k T H=>∃ (i:Nat) (v w:AVal),T=[v,.d (.str name),.d (num n),.ptr 0 0,w,.d (encL encS c.names),.d (num i)]∧H=[.cells (c.enc.map .d)]∧i+k=Cat.ns c∧i≤n∧findC c name n=idxS name (((Cat.sn c).take n).drop i) i) (by rintro _ _ _ ⟨_,_,_,_,rfl,_⟩;rfl) ?_ (k:=Cat.ns c) ⟨0,_,_,rfl,rfl,by simp,by omega,by simp [findC]⟩
 rintro k _ _ ⟨i,v,w,rfl,rfl,hk,hin,hi⟩
 refine Ex.nT ?_
 refine Ex.seq ?_
 first|refine Ex.testB (ltB i n&&ltB i (Cat.ns c)) (Rn.text ?_) (fun h1=> ?_) (fun h1=> ?_)|refine Ex.testB (ltB i n&&ltB i (Cat.ns c)) (Rn.draw ?_) (fun h1=> ?_) (fun h1=> ?_)
 ·repeat' (first|refine gx ?_|refine fk (h1:=fun hw=> ?_) (h2:=fun hw=> ?_)|refine fpk (h1:=fun hw=> ?_) (h2:=fun hw=> ?_)|refine ⟨rfl,rfl,_,rfl,?_⟩|refine ⟨rfl,rfl⟩|fail)
  all_goals first|(simp [*,oneOrTuple,Cat.ns];done)|(simp_all [oneOrTuple,Cat.ns];done)|(simp_all [oneOrTuple,Cat.ns,ltB_eq,leB_eq,eqB_eq,seB_eq];done)|(simp_all [oneOrTuple,Cat.ns,ltB_eq,leB_eq,eqB_eq,seB_eq]<;>omega)
 ·simp only [Bool.and_eq_true] at h1
  have h2:=ltB_t h1.1
  have h3:=ltB_t h1.2
  have h4:((Cat.sn c).take n).drop i=nth (Cat.sn c) i::((Cat.sn c).take n).drop (i+1):=by
   rw [drop_nth (by simp;omega),nth_eq (by simp;omega),nth_eq (by omega)]
   simp
  rw [h4,← names_sn c (by omega)] at hi
  repeat' (first|refine gx ?_|refine Ex.condP ?_|refine Ex.condN ?_|refine Ex.cond rfl (fun ht=> ?_) (fun ht=> ?_)|refine Ex.test (Rn.text ?_)|refine Ex.test (Rn.draw ?_)|refine ⟨_,rfl,fun ht=> ?_,fun ht=> ?_⟩|refine ⟨_,rfl,?_⟩|fail)
  ·simp [hi,idxS,ht,oneOrTuple,num]
  ·exact ⟨k - 1,by omega,i+1,_,_,rfl,rfl,by omega,by omega,by simp [hi,idxS,ht]⟩
 ·repeat' (first|refine gx ?_|refine Ex.condP ?_|refine Ex.condN ?_|refine Ex.cond rfl (fun ht=> ?_) (fun ht=> ?_)|refine Ex.test (Rn.text ?_)|refine Ex.test (Rn.draw ?_)|refine ⟨_,rfl,fun ht=> ?_,fun ht=> ?_⟩|refine ⟨_,rfl,?_⟩|fail)
  have h2:((Cat.sn c).take n).drop i=[]:=by
   apply List.drop_of_length_le
   simp [ltB_eq] at h1
   simp
   omega
  rw [h2] at hi
  simp [hi,idxS,oneOrTuple,num]
def tabC (c:Cat)(name:Str)(n:Nat):Int:=findC c name (min n c.tabs.length)
theorem pf106 (c:Cat)(name:Str)(n:Nat)(hf:c.few)(hn:n≤100000):Pf A 106 [cat c,.d (.str name),.d (num n)] (.d (num (tabC c name n))):=by
 refine Pf.run [cat c,.d (.str name),.d (num n),.any,.any] rfl rfl rfl rfl ?_
 repeat' (first|refine gx ?_|fail)
 have e:(if (c.tabs.length:Int)<(n:Int) then (c.tabs.length:Int) else (n:Int))=((min n c.tabs.length:Nat):Int):=by split<;>omega
 refine cl (pf84 c name (min n c.tabs.length) hf (by omega)) ?_ (ha:=by rw [num,← e];rfl)
 repeat' (first|refine gx ?_|fail)
 exact ⟨_,rfl,rfl⟩
def ownersB (t:Tab):Int→List Int→Bool
 |_,[]=>true
 |p,o::r=>ltB p o&&ltB o t.cols.length&& !(seB (nth t.cols o.toNat).space []&&seB (nth t.cols o.toNat).refs [])&&ownersB t o r
def tab (t:Tab):AVal:= .agg (t.enc.map .d)
theorem pf143 (t:Tab)(xs:List Int)(hx:xs.length≤1000)(hc:t.cols.length≤1000):Pf A 143 [tab t,.d (ints xs)] (.d (.bool (ownersB t (-1) xs))):=by
 refine Pf.run [tab t,.d (ints xs),.any,.any,.any] rfl rfl rfl rfl ?_
 repeat' (first|refine gx ?_|fail)
 refine Ex.loopS (fun k T H=>∃ (i:Nat) (v w:AVal) (p:Int),T=[v,.d (ints xs),.ptr 0 0,w,.d (num i)]∧H=[.cells (t.enc.map .d)]∧i+k=xs.length∧p=(if i=0 then -1 else nth xs (i - 1))∧ -1≤p∧ownersB t (-1) xs=ownersB t p (xs.drop i)) (by rintro _ _ _ ⟨_,_,_,_,_,rfl,_⟩;rfl) ?_ (k:=xs.length) ⟨0,_,_, -1,rfl,rfl,by simp,by simp,by omega,by simp⟩
 rintro k _ _ ⟨i,v,w,p,rfl,rfl,hk,hp,hp1,hi⟩
 refine Ex.nT ?_
 refine Ex.seq ?_
 refine tb (ltB i xs.length) (fun h1=> ?_) (fun h1=> ?_)
 ·have h2:=ltB_t h1
  rw [drop_nth (by omega)] at hi
  have hq:(((i:Int) - 1).toNat)=i - 1:=by omega
  repeat' (first|refine gx ?_|fail)
  first|refine Ex.testB (!(withinB (nth xs i) 0 (t.cols.length - 1))||(ltB 0 i&&leB (nth xs i) (nth xs (i - 1)))||(seB (nth t.cols (nth xs i).toNat).space []&&seB (nth t.cols (nth xs i).toNat).refs [])) (Rn.text ?_) (fun h3=> ?_) (fun h3=> ?_)|refine Ex.testB (!(withinB (nth xs i) 0 (t.cols.length - 1))||(ltB 0 i&&leB (nth xs i) (nth xs (i - 1)))||(seB (nth t.cols (nth xs i).toNat).space []&&seB (nth t.cols (nth xs i).toNat).refs [])) (Rn.draw ?_) (fun h3=> ?_) (fun h3=> ?_)
  ·repeat' (first|refine cl (pf95 _ _ _) ?_|refine gx ?_|refine fk (h1:=fun hw=> ?_) (h2:=fun hw=> ?_)|refine fpk (h1:=fun hw=> ?_) (h2:=fun hw=> ?_)|refine ⟨rfl,rfl,_,rfl,?_⟩|refine ⟨rfl,rfl⟩|fail)
   all_goals first|(simp [*,oneOrTuple,hq];done)|(simp_all [oneOrTuple,hq];done)|(simp_all [oneOrTuple,hq,ltB_eq,leB_eq,eqB_eq,seB_eq];done)|(simp_all [oneOrTuple,hq,ltB_eq,leB_eq,eqB_eq,seB_eq]<;>omega)
  ·repeat' (first|refine gx ?_|fail)
   refine ⟨_,rfl,?_⟩
   have h5:(ltB p (nth xs i)&&ltB (nth xs i) t.cols.length&& !(seB (nth t.cols (nth xs i).toNat).space []&&seB (nth t.cols (nth xs i).toNat).refs []))=false:=by
    rcases hS:(seB (nth t.cols (nth xs i).toNat).space []&&seB (nth t.cols (nth xs i).toNat).refs []) with _|_
    ·simp [hS,withinB,ltB_eq,leB_eq] at h3 ⊢
     by_cases h0:i=0
     ·simp [h0] at hp h3 ⊢;omega
     ·simp [h0] at hp;omega
    ·simp
   rw [hi,ownersB,h5]
   simp [oneOrTuple]
  ·repeat' (first|refine gx ?_|fail)
   have h5:ltB p (nth xs i)=true∧ltB (nth xs i) t.cols.length=true∧(seB (nth t.cols (nth xs i).toNat).space []&&seB (nth t.cols (nth xs i).toNat).refs [])=false:=by
    simp only [Bool.or_eq_false_iff] at h3
    refine ⟨?_,?_,h3.2⟩
    ·simp [withinB,ltB_eq,leB_eq] at h3 ⊢
     by_cases h0:i=0
     ·simp [h0] at hp h3 ⊢;omega
     ·simp [h0] at hp;omega
    ·simp [withinB,ltB_eq,leB_eq] at h3 ⊢
     omega
   refine ⟨k - 1,by omega,i+1,_,_,nth xs i,rfl,rfl,by omega,by simp,?_,?_⟩
   ·have:=ltB_t h5.1;omega
   ·rw [hi,ownersB,h5.1,h5.2.1,h5.2.2]
    simp
 ·repeat' (first|refine gx ?_|fail)
  have h2:=ltB_f h1
  rw [List.drop_of_length_le (by omega)] at hi
  exact ⟨_,rfl,by simp [hi,ownersB,oneOrTuple]⟩
def colErr (c:Cat)(n i:Nat):Int :=
 if !isNameB (nth (nth c.tabs n).cols i).name||(!seB (nth (nth c.tabs n).cols i).space []&& !isNameB (nth (nth c.tabs n).cols i).space) then 3
 else if ((nth c.tabs n).cols.take i).any fun y=>seB y.name (nth (nth c.tabs n).cols i).name then 4
 else if !seB (nth (nth c.tabs n).cols i).refs []&&ltB (tabC c (nth (nth c.tabs n).cols i).refs n) 0 then 7
 else if (!eqB (nth (nth c.tabs n).cols i).type 1&& !eqB (nth (nth c.tabs n).cols i).type 2)||(leB 0 (tabC c (nth (nth c.tabs n).cols i).refs n)&& !seB (nth (nth c.tabs n).cols i).refs []&& !eqB (nth (nth c.tabs (tabC c (nth (nth c.tabs n).cols i).refs n).toNat).cols 0).type (nth (nth c.tabs n).cols i).type) then 5
 else if (!seB (nth (nth c.tabs n).cols i).space []&& !seB (nth (nth c.tabs n).cols i).refs [])|| !ownersB (nth c.tabs n) (-1) (nth (nth c.tabs n).cols i).owners|| !withinB (nth (nth c.tabs n).cols i).joint 0 1||(eqB (nth (nth c.tabs n).cols i).owners.length 0&&(!eqB (nth (nth c.tabs n).cols i).joint 0|| !eqB (nth (nth c.tabs n).cols i).duty 0)) then 1
 else if !withinB (nth (nth c.tabs n).cols i).duty 0 1048576||(!eqB (nth c.tabs n).retain 0&&ltB (nth c.tabs n).retain (nth (nth c.tabs n).cols i).duty)||(eqB i 0&&ltB 0 (nth (nth c.tabs n).cols i).owners.length&& !eqB (nth c.tabs n).erase 1) then 1
 else if (!seB (nth (nth c.tabs n).cols i).refs []&&ltB 0 (nth (nth c.tabs (tabC c (nth (nth c.tabs n).cols i).refs n).toNat).cols 0).owners.length)&& !hasB (nth (nth c.tabs n).cols i).owners i then 1
 else 0
theorem idxS_bound (name:Str):∀ (l:List Str) (i:Nat),idxS name l i= -1∨((i:Int)≤idxS name l i∧idxS name l i<i+l.length)
 |[],i=>Or.inl rfl
 |x::r,i=>by
  simp only [idxS]
  split
  ·right;simp;omega
  ·rcases idxS_bound name r (i+1) with h|h
   ·exact Or.inl h
   ·right;simp;omega
theorem tabC_bound (c:Cat)(name:Str)(n:Nat):tabC c name n= -1∨(0≤tabC c name n∧tabC c name n<n∧tabC c name n<c.tabs.length):=by
 unfold tabC findC
 rcases idxS_bound name ((Cat.sn c).take (min n c.tabs.length)) 0 with h|h
 ·exact Or.inl h
 ·right
  simp at h
  omega
set_option maxHeartbeats 8000000 in
theorem pf96 (c:Cat)(n i:Nat)(hf:c.few)(hn:n<c.tabs.length)(hi:i<(nth c.tabs n).cols.length)(hl:(nth c.tabs n).cols.length≤1000)(ho:(nth (nth c.tabs n).cols i).owners.length≤1000)(hp:∀ m,m<n→0<(nth c.tabs m).cols.length):Pf A 96 [cat c,.d (num n),.d (num i)] (.d (num (colErr c n i))):=by
 have hn2:n≤1000:=by obtain ⟨f0,_⟩:=hf;omega
 have hb:tabC c (nth (nth c.tabs n).cols i).refs n= -1∨(0≤tabC c (nth (nth c.tabs n).cols i).refs n∧tabC c (nth (nth c.tabs n).cols i).refs n<n∧tabC c (nth (nth c.tabs n).cols i).refs n<c.tabs.length∧0<(nth c.tabs (tabC c (nth (nth c.tabs n).cols i).refs n).toNat).cols.length):=by
  rcases tabC_bound c (nth (nth c.tabs n).cols i).refs n with h|h
  ·exact Or.inl h
  ·exact Or.inr ⟨h.1,h.2.1,h.2.2,hp _ (by omega)⟩
 refine Pf.run [cat c,.d (num n),.d (num i),.any,.any,.any,.any,.any,.any] rfl rfl rfl rfl ?_
 repeat' (first|refine gx ?_|fail)
 first|refine Ex.testB (!isNameB (nth (nth c.tabs n).cols i).name||(!seB (nth (nth c.tabs n).cols i).space []&& !isNameB (nth (nth c.tabs n).cols i).space)) (Rn.text ?_) (fun h1=> ?_) (fun h1=> ?_)|refine Ex.testB (!isNameB (nth (nth c.tabs n).cols i).name||(!seB (nth (nth c.tabs n).cols i).space []&& !isNameB (nth (nth c.tabs n).cols i).space)) (Rn.draw ?_) (fun h1=> ?_) (fun h1=> ?_)
 ·repeat' (first|refine cl (pf64 _) ?_|refine gx ?_|refine fk (h1:=fun hw=> ?_) (h2:=fun hw=> ?_)|refine fpk (h1:=fun hw=> ?_) (h2:=fun hw=> ?_)|refine ⟨rfl,rfl,_,rfl,?_⟩|refine ⟨rfl,rfl⟩|fail)
  all_goals first|(simp [*,oneOrTuple];done)|(simp_all [oneOrTuple];done)|(simp_all [oneOrTuple,ltB_eq,leB_eq,eqB_eq,seB_eq];done)|(simp_all [oneOrTuple,ltB_eq,leB_eq,eqB_eq,seB_eq]<;>omega)
 ·repeat' (first|refine gx ?_|fail)
  exact ⟨_,rfl,by simp only [oneOrTuple,num,colErr,h1,Bool.false_eq_true,if_true,if_false]⟩
 repeat' (first|refine gx ?_|fail)
 refine Ex.loopS (fun k T H=>∃ (j:Nat) (v w z:AVal),T=[v,.d (num n),.d (num i),.ptr 0 0,w,.ptr 1 0,.ptr 2 0,.d (num j),z]∧H=[.cells (c.enc.map .d),.cells ((nth c.tabs n).enc.map .d),.cells ((nth (nth c.tabs n).cols i).enc.map .d)]∧j+k=i∧(((nth c.tabs n).cols.take i).any fun y=>seB y.name (nth (nth c.tabs n).cols i).name)=((((nth c.tabs n).cols.take i).drop j).any fun y=>seB y.name (nth (nth c.tabs n).cols i).name)) (by rintro _ _ _ ⟨_,_,_,_,_,rfl,_⟩;rfl) ?_ (k:=i) ⟨0,_,_,_,rfl,rfl,by simp,by simp⟩
 rintro k _ _ ⟨j,v,w,z,rfl,rfl,hk,hj⟩
 refine Ex.nT ?_
 refine Ex.seq ?_
 refine tb (ltB j i) (fun h8=> ?_) (fun h8=> ?_)
 ·have h9:=ltB_t h8
  rw [take_drop_nth (by omega) (by omega)] at hj
  repeat' (first|refine gx ?_|refine Ex.condP ?_|refine Ex.condN ?_|refine Ex.cond rfl (fun ht=> ?_) (fun ht=> ?_)|refine Ex.test (Rn.text ?_)|refine Ex.test (Rn.draw ?_)|refine ⟨_,rfl,fun ht=> ?_,fun ht=> ?_⟩|refine ⟨_,rfl,?_⟩|fail)
  ·have h2:(((nth c.tabs n).cols.take i).any fun y=>seB y.name (nth (nth c.tabs n).cols i).name)=true:=by rw [hj];simp [ht]
   simp only [oneOrTuple,num,colErr,h1,h2,Bool.false_eq_true,if_true,if_false]
  ·exact ⟨k - 1,by omega,j+1,_,_,_,rfl,rfl,by omega,by rw [hj];simp [ht]⟩
 have h9:=ltB_f h8
 rw [List.drop_of_length_le (by simp;omega)] at hj
 have h2:(((nth c.tabs n).cols.take i).any fun y=>seB y.name (nth (nth c.tabs n).cols i).name)=false:=by rw [hj];rfl
 clear hj h8 hk
 repeat' (first|refine cl (pf106 c (nth (nth c.tabs n).cols i).refs n hf (by omega)) ?_|refine gx ?_|fail)
 refine tb (!seB (nth (nth c.tabs n).cols i).refs []&&ltB (tabC c (nth (nth c.tabs n).cols i).refs n) 0) (fun h3=> ?_) (fun h3=> ?_)
 ·repeat' (first|refine gx ?_|fail)
  exact ⟨_,rfl,by simp only [oneOrTuple,num,colErr,h1,h2,h3,Bool.false_eq_true,if_true,if_false]⟩
 have h3' :(!seB (nth (nth c.tabs n).cols i).refs [])=true→0≤tabC c (nth (nth c.tabs n).cols i).refs n:=fun h=>by
  simp only [h,Bool.true_and] at h3
  exact ltB_f h3
 have h3q:(!seB (nth (nth c.tabs n).cols i).refs [])=true→0<(nth c.tabs (tabC c (nth (nth c.tabs n).cols i).refs n).toNat).cols.length:=fun h=>by have:=h3' h;omega
 refine tb ((!eqB (nth (nth c.tabs n).cols i).type 1&& !eqB (nth (nth c.tabs n).cols i).type 2)||(leB 0 (tabC c (nth (nth c.tabs n).cols i).refs n)&& !seB (nth (nth c.tabs n).cols i).refs []&& !eqB (nth (nth c.tabs (tabC c (nth (nth c.tabs n).cols i).refs n).toNat).cols 0).type (nth (nth c.tabs n).cols i).type)) (fun h4=> ?_) (fun h4=> ?_)
 ·repeat' (first|refine gx ?_|fail)
  exact ⟨_,rfl,by simp only [oneOrTuple,num,colErr,h1,h2,h3,h4,Bool.false_eq_true,if_true,if_false]⟩
 first|refine Ex.testB ((!seB (nth (nth c.tabs n).cols i).space []&& !seB (nth (nth c.tabs n).cols i).refs [])|| !ownersB (nth c.tabs n) (-1) (nth (nth c.tabs n).cols i).owners|| !withinB (nth (nth c.tabs n).cols i).joint 0 1||(eqB (nth (nth c.tabs n).cols i).owners.length 0&&(!eqB (nth (nth c.tabs n).cols i).joint 0|| !eqB (nth (nth c.tabs n).cols i).duty 0))) (Rn.text ?_) (fun h5=> ?_) (fun h5=> ?_)|refine Ex.testB ((!seB (nth (nth c.tabs n).cols i).space []&& !seB (nth (nth c.tabs n).cols i).refs [])|| !ownersB (nth c.tabs n) (-1) (nth (nth c.tabs n).cols i).owners|| !withinB (nth (nth c.tabs n).cols i).joint 0 1||(eqB (nth (nth c.tabs n).cols i).owners.length 0&&(!eqB (nth (nth c.tabs n).cols i).joint 0|| !eqB (nth (nth c.tabs n).cols i).duty 0))) (Rn.draw ?_) (fun h5=> ?_) (fun h5=> ?_)
 ·repeat' (first|refine cl (pf143 (nth c.tabs n) (nth (nth c.tabs n).cols i).owners ho hl) ?_|refine cl (pf95 _ _ _) ?_|refine gx ?_|refine fk (h1:=fun hw=> ?_) (h2:=fun hw=> ?_)|refine fpk (h1:=fun hw=> ?_) (h2:=fun hw=> ?_)|refine ⟨rfl,rfl,_,rfl,?_⟩|refine ⟨rfl,rfl⟩|fail)
  all_goals first|(simp [*,oneOrTuple];done)|(simp_all [oneOrTuple];done)|(simp_all [oneOrTuple,ltB_eq,leB_eq,eqB_eq,seB_eq];done)|(simp_all [oneOrTuple,ltB_eq,leB_eq,eqB_eq,seB_eq]<;>omega)
 ·repeat' (first|refine gx ?_|fail)
  exact ⟨_,rfl,by simp only [oneOrTuple,num,colErr,h1,h2,h3,h4,h5,Bool.false_eq_true,if_true,if_false]⟩
 first|refine Ex.testB (!withinB (nth (nth c.tabs n).cols i).duty 0 1048576||(!eqB (nth c.tabs n).retain 0&&ltB (nth c.tabs n).retain (nth (nth c.tabs n).cols i).duty)||(eqB i 0&&ltB 0 (nth (nth c.tabs n).cols i).owners.length&& !eqB (nth c.tabs n).erase 1)) (Rn.text ?_) (fun h6=> ?_) (fun h6=> ?_)|refine Ex.testB (!withinB (nth (nth c.tabs n).cols i).duty 0 1048576||(!eqB (nth c.tabs n).retain 0&&ltB (nth c.tabs n).retain (nth (nth c.tabs n).cols i).duty)||(eqB i 0&&ltB 0 (nth (nth c.tabs n).cols i).owners.length&& !eqB (nth c.tabs n).erase 1)) (Rn.draw ?_) (fun h6=> ?_) (fun h6=> ?_)
 ·repeat' (first|refine cl (pf95 _ _ _) ?_|refine gx ?_|refine fk (h1:=fun hw=> ?_) (h2:=fun hw=> ?_)|refine fpk (h1:=fun hw=> ?_) (h2:=fun hw=> ?_)|refine ⟨rfl,rfl,_,rfl,?_⟩|refine ⟨rfl,rfl⟩|fail)
  all_goals first|(simp [*,oneOrTuple];done)|(simp_all [oneOrTuple];done)|(simp_all [oneOrTuple,ltB_eq,leB_eq,eqB_eq,seB_eq];done)|(simp_all [oneOrTuple,ltB_eq,leB_eq,eqB_eq,seB_eq]<;>omega)
 ·repeat' (first|refine gx ?_|fail)
  exact ⟨_,rfl,by simp only [oneOrTuple,num,colErr,h1,h2,h3,h4,h5,h6,Bool.false_eq_true,if_true,if_false]⟩
 first|refine Ex.testB ((!seB (nth (nth c.tabs n).cols i).refs []&&ltB 0 (nth (nth c.tabs (tabC c (nth (nth c.tabs n).cols i).refs n).toNat).cols 0).owners.length)&& !hasB (nth (nth c.tabs n).cols i).owners i) (Rn.text ?_) (fun h7=> ?_) (fun h7=> ?_)|refine Ex.testB ((!seB (nth (nth c.tabs n).cols i).refs []&&ltB 0 (nth (nth c.tabs (tabC c (nth (nth c.tabs n).cols i).refs n).toNat).cols 0).owners.length)&& !hasB (nth (nth c.tabs n).cols i).owners i) (Rn.draw ?_) (fun h7=> ?_) (fun h7=> ?_)
 ·repeat' (first|refine cl (pf89 (nth (nth c.tabs n).cols i).owners i ho) ?_|refine ixZ (hi:=⟨h3' hw,by omega⟩) (h2:= ?_)|refine ixN (hi:=h3q hw) (h2:= ?_)|refine gx ?_|refine fk (h1:=fun hw=> ?_) (h2:=fun hw=> ?_)|refine fpk (h1:=fun hw=> ?_) (h2:=fun hw=> ?_)|refine ⟨rfl,rfl,_,rfl,?_⟩|refine ⟨rfl,rfl⟩|fail)
  all_goals first|(simp [*,oneOrTuple];done)|(simp_all [oneOrTuple];done)|(simp_all [oneOrTuple,ltB_eq,leB_eq,eqB_eq,seB_eq];done)|(simp_all [oneOrTuple,ltB_eq,leB_eq,eqB_eq,seB_eq]<;>omega)
 ·repeat' (first|refine gx ?_|fail)
  exact ⟨_,rfl,by simp only [oneOrTuple,num,colErr,h1,h2,h3,h4,h5,h6,h7,Bool.false_eq_true,if_true,if_false]⟩
 repeat' (first|refine gx ?_|fail)
 exact ⟨_,rfl,by simp only [oneOrTuple,num,colErr,h1,h2,h3,h4,h5,h6,h7,Bool.false_eq_true,if_true,if_false]⟩
end Go.Proofs.YtkmclibmmlgogaaGreat
namespace Go.Proofs.YtkmclibmmlgogaaGreat
open Go.Abs Go.Abs.S
attribute [local irreducible] Rx Ry Rn Ex Pf
def colsErr (c:Cat)(n:Nat):Nat→Nat→Int
 |0,_=>0
 |k+1,i=>if !eqB (colErr c n i) 0 then colErr c n i else colsErr c n k (i+1)
def tabErr (c:Cat)(n:Nat):Int :=
 if !withinB (nth c.tabs n).cols.length 1 8|| !withinB (nth c.tabs n).erase 0 1|| !withinB (nth c.tabs n).retain 0 1048576 then 1 else colsErr c n (nth c.tabs n).cols.length 0
structure Cat.small (c:Cat):Prop where
 few:c.few
 cols:∀ n,n<c.tabs.length→(nth c.tabs n).cols.length≤1000
 owners:∀ n i,n<c.tabs.length→i<(nth c.tabs n).cols.length→(nth (nth c.tabs n).cols i).owners.length≤1000
theorem pf65 (c:Cat)(n:Nat)(hf:Cat.small c)(hn:n<c.tabs.length)(hp:∀ m,m<n→0<(nth c.tabs m).cols.length):Pf A 65 [cat c,.d (num n)] (.d (num (tabErr c n))):=by
 have hl:=hf.cols n hn
 refine Pf.run [cat c,.d (num n),.any,.any,.any,.any,.any] rfl rfl rfl rfl ?_
 repeat' (first|refine gx ?_|fail)
 first|refine Ex.testB (!withinB (nth c.tabs n).cols.length 1 8|| !withinB (nth c.tabs n).erase 0 1|| !withinB (nth c.tabs n).retain 0 1048576) (Rn.text ?_) (fun h1=> ?_) (fun h1=> ?_)|refine Ex.testB (!withinB (nth c.tabs n).cols.length 1 8|| !withinB (nth c.tabs n).erase 0 1|| !withinB (nth c.tabs n).retain 0 1048576) (Rn.draw ?_) (fun h1=> ?_) (fun h1=> ?_)
 ·repeat' (first|refine cl (pf95 _ _ _) ?_|refine gx ?_|refine fk (h1:=fun hw=> ?_) (h2:=fun hw=> ?_)|refine fpk (h1:=fun hw=> ?_) (h2:=fun hw=> ?_)|refine ⟨rfl,rfl,_,rfl,?_⟩|refine ⟨rfl,rfl⟩|fail)
  all_goals first|(simp [*,oneOrTuple];done)|(simp_all [oneOrTuple];done)|(simp_all [oneOrTuple,ltB_eq,leB_eq,eqB_eq,seB_eq];done)|(simp_all [oneOrTuple,ltB_eq,leB_eq,eqB_eq,seB_eq]<;>omega)
 ·repeat' (first|refine gx ?_|fail)
  exact ⟨_,rfl,by simp only [oneOrTuple,num,tabErr,h1,if_true]⟩
 repeat' (first|refine gx ?_|fail)
 refine Ex.loopS (fun k T H=>∃ (i:Nat) (v w z:AVal),T=[v,.d (num n),.ptr 0 0,w,.ptr 1 0,.d (num i),z]∧H=[.cells (c.enc.map .d),.cells ((nth c.tabs n).enc.map .d)]∧i+k=(nth c.tabs n).cols.length∧tabErr c n=colsErr c n k i) (by rintro _ _ _ ⟨_,_,_,_,_,rfl,_⟩;rfl) ?_ (k:=(nth c.tabs n).cols.length) ⟨0,_,_,_,rfl,rfl,by simp,by simp only [tabErr,h1,Bool.false_eq_true,if_false]⟩
 rintro k _ _ ⟨i,v,w,z,rfl,rfl,hk,hi⟩
 refine Ex.nT ?_
 refine Ex.seq ?_
 refine tb (ltB i (nth c.tabs n).cols.length) (fun h2=> ?_) (fun h2=> ?_)
 ·have h3:=ltB_t h2
  obtain ⟨k,rfl⟩:∃ k',k=k' +1:=⟨k - 1,by omega⟩
  repeat' (first|refine cl (pf96 c n i hf.few hn (by omega) hl (hf.owners n i hn (by omega)) hp) ?_|refine gx ?_|refine Ex.condP ?_|refine Ex.condN ?_|refine Ex.cond rfl (fun ht=> ?_) (fun ht=> ?_)|refine Ex.test (Rn.text ?_)|refine Ex.test (Rn.draw ?_)|refine ⟨_,rfl,fun ht=> ?_,fun ht=> ?_⟩|refine ⟨_,rfl,?_⟩|fail)
  ·simp [oneOrTuple,hi,colsErr,ht]
  ·exact ⟨k,by omega,i+1,_,_,_,rfl,rfl,by omega,by simp [hi,colsErr,ht]⟩
 ·have h3:=ltB_f h2
  obtain rfl:k=0:=by omega
  repeat' (first|refine gx ?_|fail)
  exact ⟨_,rfl,by simp [oneOrTuple,hi,colsErr,num]⟩
def shapeR (v:Vw):Bool:=(!seB v.right []||eqB v.on.length 0)&&leB v.on.length 8&&leB (v.items.length+v.aggs.length) 8
def shapeB (v:Vw):Bool :=
 if eqB v.kind 2 then !seB v.right []&&eqB v.on.length 0&&eqB v.wh.length 0&&eqB v.items.length 0&&eqB v.aggs.length 0&& !v.distinct
 else if eqB v.kind 0 then !(eqB v.items.length 0||ltB 0 v.aggs.length)&&shapeR v
 else !(eqB v.aggs.length 0||v.distinct)&&shapeR v
def vw (v:Vw):AVal:= .agg (v.enc.map .d)
set_option maxHeartbeats 8000000 in
theorem pf97 (c:Cat)(v:Vw)(h0:v.items.length≤1000)(h1:v.aggs.length≤1000):Pf A 97 [cat c,vw v] (.d (.bool (shapeB v))):=by
 refine Pf.run [cat c,vw v,.any,.any,.any] rfl rfl rfl rfl ?_
 repeat' (first|refine gx ?_|refine fk (h1:=fun hw=> ?_) (h2:=fun hw=> ?_)|refine fpk (h1:=fun hw=> ?_) (h2:=fun hw=> ?_)|refine Ex.condP ?_|refine Ex.condN ?_|refine Ex.cond rfl (fun ht=> ?_) (fun ht=> ?_)|refine Ex.test (Rn.text ?_)|refine Ex.test (Rn.draw ?_)|refine ⟨_,rfl,fun ht=> ?_,fun ht=> ?_⟩|refine ⟨_,rfl,?_⟩|fail)
 all_goals first|(simp [*,oneOrTuple,shapeB,shapeR];done)|(simp_all [oneOrTuple,shapeB,shapeR];done)|(simp_all [oneOrTuple,shapeB,shapeR,ltB_eq,leB_eq,eqB_eq,seB_eq];done)|(simp_all [oneOrTuple,shapeB,shapeR,ltB_eq,leB_eq,eqB_eq,seB_eq]<;>omega)
def pairsErr (l r:List Int):List (Int×Int)→Int
 |[]=>0
 |p::ps=>if !withinB p.1 0 (l.length - 1)|| !withinB p.2 0 (r.length - 1) then 3 else if !eqB (nth l p.1.toNat) (nth r p.2.toNat) then 5 else pairsErr l r ps
theorem pf99 (on:List (Int×Int))(l r:List Int)(h0:on.length≤1000)(h1:l.length≤100000)(h2:r.length≤100000):Pf A 99 [.d (encL (fun p=>[num p.1,num p.2]) on),.d (ints l),.d (ints r)] (.d (num (pairsErr l r on))):=by
 refine Pf.run [.d (encL (fun p=>[num p.1,num p.2]) on),.d (ints l),.d (ints r),.any,.any] rfl rfl rfl rfl ?_
 repeat' (first|refine gx ?_|fail)
 refine Ex.loopS (fun k T H=>∃ (i:Nat) (v:AVal),T=[.d (encL (fun p=>[num p.1,num p.2]) on),.d (ints l),.d (ints r),v,.d (num i)]∧H=[]∧i+k=on.length∧pairsErr l r on=pairsErr l r (on.drop i)) (by rintro _ _ _ ⟨_,_,_,rfl,_⟩;rfl) ?_ (k:=on.length) ⟨0,_,rfl,rfl,by simp,by simp⟩
 rintro k _ _ ⟨i,v,rfl,rfl,hk,hi⟩
 refine Ex.nT ?_
 refine Ex.seq ?_
 refine tb (ltB i on.length) (fun h3=> ?_) (fun h3=> ?_)
 ·have h4:=ltB_t h3
  rw [drop_nth (by omega)] at hi
  repeat' (first|refine gx ?_|fail)
  first|refine Ex.testB (!withinB (nth on i).1 0 (l.length - 1)|| !withinB (nth on i).2 0 (r.length - 1)) (Rn.text ?_) (fun h5=> ?_) (fun h5=> ?_)|refine Ex.testB (!withinB (nth on i).1 0 (l.length - 1)|| !withinB (nth on i).2 0 (r.length - 1)) (Rn.draw ?_) (fun h5=> ?_) (fun h5=> ?_)
  ·repeat' (first|refine cl (pf95 _ _ _) ?_|refine gx ?_|refine fk (h1:=fun hw=> ?_) (h2:=fun hw=> ?_)|refine fpk (h1:=fun hw=> ?_) (h2:=fun hw=> ?_)|refine ⟨rfl,rfl,_,rfl,?_⟩|refine ⟨rfl,rfl⟩|fail)
   all_goals first|(simp [*,oneOrTuple];done)|(simp_all [oneOrTuple];done)|(simp_all [oneOrTuple,ltB_eq,leB_eq,eqB_eq,seB_eq];done)|(simp_all [oneOrTuple,ltB_eq,leB_eq,eqB_eq,seB_eq]<;>omega)
  ·repeat' (first|refine gx ?_|fail)
   exact ⟨_,rfl,by simp only [oneOrTuple,num,hi,pairsErr,h5,if_true]⟩
  have h6:=h5
  simp [withinB,leB_eq] at h6
  repeat' (first|refine gx ?_|refine Ex.condP ?_|refine Ex.condN ?_|refine Ex.cond rfl (fun ht=> ?_) (fun ht=> ?_)|refine Ex.test (Rn.text ?_)|refine Ex.test (Rn.draw ?_)|refine ⟨_,rfl,fun ht=> ?_,fun ht=> ?_⟩|refine ⟨_,rfl,?_⟩|fail)
  ·simp only [oneOrTuple,num,hi,pairsErr,h5,ht,Bool.false_eq_true,if_true,if_false]
  ·exact ⟨k - 1,by omega,i+1,_,rfl,rfl,by omega,by simp only [hi,pairsErr,h5,ht,Bool.false_eq_true,if_false]⟩
 ·have h4:=ltB_f h3
  rw [List.drop_of_length_le (by omega)] at hi
  repeat' (first|refine gx ?_|fail)
  exact ⟨_,rfl,by simp [oneOrTuple,hi,pairsErr,num]⟩
end Go.Proofs.YtkmclibmmlgogaaGreat
