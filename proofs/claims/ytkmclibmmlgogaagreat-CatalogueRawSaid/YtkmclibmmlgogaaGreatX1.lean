/-
  The reference's columnNames.; The reference's Valid, isStore, isTable, Find, Names, Types.; The reference's Add.; The reference's Sources; that the program's are the same.
  (Put together by a small program out of several texts; blanks left out to keep the folder small.)
-/
import Derived.Test.YtkmclibmmlgogaaGreatX0
import Derived.Test.YtkmclibmmlgogaaGreatB6
set_option linter.unusedVariables false
set_option linter.unusedSimpArgs false
namespace Go.Proofs.YtkmclibmmlgogaaGreat
open Go.Abs Go.Abs.S
attribute [local irreducible] Rx Ry Rn Ex Pf
set_option maxHeartbeats 8000000 in
theorem pf_names (c:Cat)(hs:Small2 c):∀ (n s:Nat),s<n→n≤Cat.ns c→srcOK c n→Pf A 86 [cat c,.d (num s)] (.d (encL encS (cnm c s)))
 |0,s,h,_,_=>absurd h (by omega)
 |n+1,s,h,hn,ho=>by
  have hns:Cat.ns c≤2000:=by obtain ⟨f0,f1,_⟩:=hs.sm.few;unfold Cat.ns;omega
  have hns2:Cat.ns c=c.tabs.length+c.views.length:=rfl
  rcases Nat.lt_or_ge s n with h1|h1
  ·exact pf_names c hs n s h1 (by omega) (fun k h1 h2=>ho k h1 (by omega))
  obtain rfl:s=n:=by omega
  have ih:∀ k,k<s→Pf A 86 [cat c,.d (num k)] (.d (encL encS (cnm c k))):=fun k hk=>pf_names c hs s k hk (by omega) (fun k h1 h2=>ho k h1 (by omega))
  refine Pf.run [cat c,.d (num s),.any,.any,.any,.any,.any,.any,.any] rfl rfl rfl rfl ?_
  repeat' (first|refine gx ?_|fail)
  refine tb (ltB s c.tabs.length) (fun h2=> ?_) (fun h2=> ?_)
  ·have h3:=ltB_t h2
   have hcl:=hs.sm.cols s (by omega)
   repeat' (first|refine gx ?_|fail)
   refine Ex.loopS (fun k T H=>∃ (i:Nat) (acc:List Str) (w0 w3 w6 w7 w8:AVal),T=[w0,.d (num s),.ptr 0 0,w3,ownL 1 encS acc,.d (num i),w6,w7,w8]∧H=[.cells (c.enc.map .d)]∧i+k=(nth c.tabs s).cols.length∧acc=((nth c.tabs s).cols.take i).map Col.name) (by rintro _ _ _ ⟨_,_,_,_,_,_,_,_,rfl,_⟩;rfl) ?_ (k:=(nth c.tabs s).cols.length) ⟨0,[],_,_,_,_,_,rfl,rfl,by simp,by simp⟩
   rintro k _ _ ⟨i,acc,w0,w3,w6,w7,w8,rfl,rfl,hk,hacc⟩
   have hl:acc.length=i:=by rw [hacc];simp;omega
   refine Ex.nT ?_
   repeat' (first|refine gx ?_|refine Ex.condP ?_|refine Ex.condN ?_|refine Ex.cond rfl (fun ht=> ?_) (fun ht=> ?_)|refine Ex.test (Rn.text ?_)|refine Ex.test (Rn.draw ?_)|refine ⟨_,rfl,fun ht=> ?_,fun ht=> ?_⟩|refine ⟨_,rfl,?_⟩|fail)
   ·have h4:=ltB_t ht
    refine ⟨k - 1,by omega,i+1,acc++[(nth (nth c.tabs s).cols i).name],_,_,_,_,_,rfl,rfl,by omega,?_⟩
    rw [take_nth (by omega),hacc]
    simp
   ·have h4:=ltB_f ht
    rw [List.take_of_length_le (by omega)] at hacc
    simp only [cnm,stNms]
    rw [if_pos (by omega),← hacc]
    rfl
  have h3:=ltB_f h2
  have hv:s - c.tabs.length<c.views.length:=by omega
  obtain ⟨o1,o2⟩:=ho s (by omega) (by omega)
  have b1:=findC_bound c (nth c.views (s - c.tabs.length)).left s
  obtain ⟨q1,e1⟩:∃ q:Nat,findC c (nth c.views (s - c.tabs.length)).left s=q:=⟨_,(Int.toNat_of_nonneg o1).symm⟩
  have p1:=pf84 c (nth c.views (s - c.tabs.length)).left s hs.sm.few (by omega)
  rw [e1] at p1
  have t1:=ih q1 (by omega)
  have hi1:=hs.items _ hv
  have hi2:=hs.aggs _ hv
  repeat' (first|refine ixI (e:=(s:Int) - (c.tabs.length:Int)) (s - c.tabs.length) (h2:= ?_)|refine gx ?_|fail)
  refine tb (eqB (nth c.views (s - c.tabs.length)).kind 2) (fun h4=> ?_) (fun h4=> ?_)
  ·repeat' (first|refine cl (p1) ?_|refine cl (t1) ?_|refine gx ?_|fail)
   refine ⟨_,rfl,?_⟩
   have hct:cnm c s=nth (nmsU c s) q1:=by
    unfold cnm stNms
    rw [if_neg (by omega),h4,if_pos rfl,e1]
    rfl
   rw [hct,nmsU_nth c (by omega)]
   rfl
  repeat' (first|refine gx ?_|fail)
  refine Ex.loopS (fun k T H=>∃ (i:Nat) (acc:List Str) (w0 w1 w2 w3 w5 w8:AVal),T=[w0,w1,w2,w3,ownL 1 encS acc,w5,.ptr 1 0,.d (num i),w8]∧H=[.cells (c.enc.map .d),.cells ((nth c.views (s - c.tabs.length)).enc.map .d)]∧i+k=(nth c.views (s - c.tabs.length)).items.length∧acc=((nth c.views (s - c.tabs.length)).items.take i).map fun x=>x.name) (by rintro _ _ _ ⟨_,_,_,_,_,_,_,_,_,rfl,_⟩;rfl) ?_ (k:=(nth c.views (s - c.tabs.length)).items.length) ⟨0,[],_,_,_,_,_,_,rfl,rfl,by simp,by simp⟩
  rintro k _ _ ⟨i,acc,w0,w1,w2,w3,w5,w8,rfl,rfl,hk,hacc⟩
  have hl:acc.length=i:=by rw [hacc];simp;omega
  refine Ex.nT ?_
  refine Ex.seq ?_
  refine tb (ltB i (nth c.views (s - c.tabs.length)).items.length) (fun h5=> ?_) (fun h5=> ?_)
  ·have h6:=ltB_t h5
   repeat' (first|refine gx ?_|fail)
   refine ⟨k - 1,by omega,i+1,acc++[(nth (nth c.views (s - c.tabs.length)).items i).name],_,_,_,_,_,_,rfl,rfl,by omega,?_⟩
   rw [take_nth (by omega),hacc]
   simp
  have h6:=ltB_f h5
  rw [List.take_of_length_le (by omega)] at hacc
  clear h5 h6 hk hl
  repeat' (first|refine gx ?_|fail)
  have hl0:acc.length≤1000:=by rw [hacc];simp;omega
  refine Ex.loopS (fun k T H=>∃ (i:Nat) (acc2:List Str) (w0 w1 w2 w3 w5 w7:AVal),T=[w0,w1,w2,w3,ownL 1 encS acc2,w5,.ptr 1 0,w7,.d (num i)]∧H=[.cells (c.enc.map .d),.cells ((nth c.views (s - c.tabs.length)).enc.map .d)]∧i+k=(nth c.views (s - c.tabs.length)).aggs.length∧acc2=acc++((nth c.views (s - c.tabs.length)).aggs.take i).map fun x=>x.name) (by rintro _ _ _ ⟨_,_,_,_,_,_,_,_,_,rfl,_⟩;rfl) ?_ (k:=(nth c.views (s - c.tabs.length)).aggs.length) ⟨0,acc,_,_,_,_,_,_,rfl,rfl,by simp,by simp⟩
  rintro k _ _ ⟨i,acc2,w0,w1,w2,w3,w5,w7,rfl,rfl,hk,hacc2⟩
  have hl:acc2.length=acc.length+i:=by rw [hacc2];simp;omega
  refine Ex.nT ?_
  refine Ex.seq ?_
  refine tb (ltB i (nth c.views (s - c.tabs.length)).aggs.length) (fun h5=> ?_) (fun h5=> ?_)
  ·have h6:=ltB_t h5
   repeat' (first|refine gx ?_|fail)
   refine ⟨k - 1,by omega,i+1,acc2++[(nth (nth c.views (s - c.tabs.length)).aggs i).name],_,_,_,_,_,_,rfl,rfl,by omega,?_⟩
   rw [take_nth (by omega),hacc2]
   simp
  ·have h6:=ltB_f h5
   rw [List.take_of_length_le (by omega)] at hacc2
   repeat' (first|refine gx ?_|fail)
   refine ⟨_,rfl,?_⟩
   simp only [cnm,stNms]
   rw [if_neg (by omega),h4,if_neg (by simp)]
   have e9:(ents (nth c.views (s - c.tabs.length))).map Ent.name=acc2:=by
    rw [hacc2,hacc]
    simp [ents,Function.comp_def]
   rw [e9]
   rfl
end Go.Proofs.YtkmclibmmlgogaaGreat
namespace Go.Proofs.YtkmclibmmlgogaaGreat
open Go.Abs Go.Abs.S
attribute [local irreducible] Rx Ry Rn Ex Pf
theorem pf36 (c:Cat)(hs:Small2 c):Pf A 36 [cat c] (.d (.bool (validC c))):=by
 have p:=pf27 c hs
 unfold pair at p
 refine Pf.run [cat c,.any,.any,.any] rfl rfl rfl rfl ?_
 repeat' (first|refine cl (p) ?_|refine gx ?_|fail)
 exact ⟨_,rfl,rfl⟩
theorem isSto_eq (c:Cat)(n:Int):isSto c n=(withinB n 0 ((c.tabs.length:Int)+c.views.length - 1)&&validC c):=by
 unfold isSto withinB Cat.ns
 rw [Bool.eq_iff_iff]
 simp only [Bool.and_eq_true,leB_eq,ltB_eq,decide_eq_true_eq]
 constructor
 ·rintro ⟨h1,h2,h3⟩;exact ⟨⟨h2,by omega⟩,h1⟩
 ·rintro ⟨⟨h2,h3⟩,h1⟩;exact ⟨h1,h2,by omega⟩
theorem pf85 (c:Cat)(hs:Small2 c)(n:Int):Pf A 85 [cat c,.d (num n)] (.d (.bool (isSto c n))):=by
 obtain ⟨f0,f1,f2,f3,f4,f5,f6,f7⟩:=id hs.sm.few
 have p36:=pf36 c hs
 have p95:=pf95 n 0 ((c.tabs.length:Int)+c.views.length - 1)
 rw [isSto_eq]
 refine Pf.run [cat c,.d (num n),.any,.any] rfl rfl rfl rfl ?_
 repeat' (first|refine cl (p95) ?_|refine cl (p36) ?_|refine gx ?_|refine fk (h1:=fun hw=> ?_) (h2:=fun hw=> ?_)|refine fpk (h1:=fun hw=> ?_) (h2:=fun hw=> ?_)|refine Ex.condP ?_|refine Ex.condN ?_|refine Ex.cond rfl (fun ht=> ?_) (fun ht=> ?_)|refine Ex.test (Rn.text ?_)|refine Ex.test (Rn.draw ?_)|refine ⟨_,rfl,fun ht=> ?_,fun ht=> ?_⟩|refine ⟨_,rfl,?_⟩|fail)
 all_goals simp [*,oneOrTuple]
def isTab (c:Cat)(n:Int):Bool:=isSto c n&&ltB n c.tabs.length
theorem pf90 (c:Cat)(hs:Small2 c)(n:Int):Pf A 90 [cat c,.d (num n)] (.d (.bool (isTab c n))):=by
 have p85:=pf85 c hs n
 unfold isTab
 refine Pf.run [cat c,.d (num n),.any,.any] rfl rfl rfl rfl ?_
 repeat' (first|refine cl (p85) ?_|refine gx ?_|refine fk (h1:=fun hw=> ?_) (h2:=fun hw=> ?_)|refine fpk (h1:=fun hw=> ?_) (h2:=fun hw=> ?_)|refine Ex.condP ?_|refine Ex.condN ?_|refine Ex.cond rfl (fun ht=> ?_) (fun ht=> ?_)|refine Ex.test (Rn.text ?_)|refine Ex.test (Rn.draw ?_)|refine ⟨_,rfl,fun ht=> ?_,fun ht=> ?_⟩|refine ⟨_,rfl,?_⟩|fail)
 all_goals simp [*,oneOrTuple]
theorem valid_ok {c:Cat}(h:validC c=true):okTo c c.names.length∧tooMany c=false∧srcOK c (Cat.ns c):=by
 have h1:=chkC_zero (eqB_t h)
 have hnl:=names_len c
 exact ⟨h1.2.2,h1.2.1,okTo_src (fun m hm=>h1.2.2 m (by omega)) (Nat.le_refl _)⟩
theorem isSto_v {c:Cat}{n:Int}(h:isSto c n=true):validC c=true:=by
 unfold isSto at h
 rw [Bool.and_eq_true] at h
 exact h.1
def fndR (c:Cat)(s:Str):Int:=if validC c then findC c s (Cat.ns c) else -1
theorem pf51 (c:Cat)(hs:Small2 c)(s:Str):Pf A 51 [cat c,.d (.str s)] (.d (num (fndR c s))):=by
 obtain ⟨f0,f1,f2,f3,f4,f5,f6,f7⟩:=id hs.sm.few
 have hns:Cat.ns c=c.tabs.length+c.views.length:=rfl
 have p36:=pf36 c hs
 have p84:=pf84 c s (Cat.ns c) hs.sm.few (by omega)
 rw [show ((Cat.ns c:Nat):Int)=(c.tabs.length:Int)+c.views.length by omega] at p84
 refine Pf.run [cat c,.d (.str s),.any,.any] rfl rfl rfl rfl ?_
 repeat' (first|refine gx ?_|fail)
 first|refine Ex.testB (!validC c) (Rn.text ?_) (fun h1=> ?_) (fun h1=> ?_)|refine Ex.testB (!validC c) (Rn.draw ?_) (fun h1=> ?_) (fun h1=> ?_)
 ·repeat' (first|refine cl (p36) ?_|refine gx ?_|refine fk (h1:=fun hw=> ?_) (h2:=fun hw=> ?_)|refine fpk (h1:=fun hw=> ?_) (h2:=fun hw=> ?_)|refine ⟨rfl,rfl,_,rfl,?_⟩|refine ⟨rfl,rfl⟩|fail)
  all_goals first|(simp [*,oneOrTuple];done)|(simp_all [oneOrTuple];done)|(simp_all [oneOrTuple,ltB_eq,leB_eq,eqB_eq,seB_eq];done)|(simp_all [oneOrTuple,ltB_eq,leB_eq,eqB_eq,seB_eq]<;>omega)
 ·repeat' (first|refine gx ?_|fail)
  exact ⟨_,rfl,by unfold fndR;rw [Bool.not_eq_true'] at h1;rw [h1];rfl⟩
 ·repeat' (first|refine cl (p84) ?_|refine gx ?_|fail)
  exact ⟨_,rfl,by unfold fndR;rw [Bool.not_eq_false'] at h1;rw [h1];rfl⟩
theorem fnd_eq (c:Cat)(s:Str):fndR c s=if validC c then idxS s (sns c) 0 else -1:=by
 unfold fndR findC sns
 rw [stors_names c (Nat.le_refl _)]
theorem pf53f (c:Cat)(hs:Small2 c)(n:Int)(h:isSto c n=false):Pf A 53 [cat c,.d (num n)] (.own 1 0 []):=by
 have p85:=pf85 c hs n
 rw [h] at p85
 refine Pf.run [cat c,.d (num n),.any,.any] rfl rfl rfl rfl ?_
 repeat' (first|refine gx ?_|fail)
 first|refine Ex.testB (true) (Rn.text ?_) (fun h1=> ?_) (fun h1=> ?_)|refine Ex.testB (true) (Rn.draw ?_) (fun h1=> ?_) (fun h1=> ?_)
 ·repeat' (first|refine cl (p85) ?_|refine gx ?_|refine fk (h1:=fun hw=> ?_) (h2:=fun hw=> ?_)|refine fpk (h1:=fun hw=> ?_) (h2:=fun hw=> ?_)|refine ⟨rfl,rfl,_,rfl,?_⟩|refine ⟨rfl,rfl⟩|fail)
  all_goals first|(simp [*,oneOrTuple];done)|(simp_all [oneOrTuple];done)|(simp_all [oneOrTuple,ltB_eq,leB_eq,eqB_eq,seB_eq];done)|(simp_all [oneOrTuple,ltB_eq,leB_eq,eqB_eq,seB_eq]<;>omega)
 ·repeat' (first|refine gx ?_|fail)
  exact ⟨_,rfl,rfl⟩
 ·cases h1
theorem pf53t (c:Cat)(hs:Small2 c)(n:Int)(h:isSto c n=true):Pf A 53 [cat c,.d (num n)] (.d (encL encS (cnm c n.toNat))):=by
 have p85:=pf85 c hs n
 rw [h] at p85
 have h2:=valid_ok (isSto_v h)
 have h3:=(isSto_t h).2.2
 have p:=pf_names c hs (Cat.ns c) n.toNat (by omega) (Nat.le_refl _) h2.2.2
 rw [Int.toNat_of_nonneg h3.1] at p
 refine Pf.run [cat c,.d (num n),.any,.any] rfl rfl rfl rfl ?_
 repeat' (first|refine gx ?_|fail)
 first|refine Ex.testB (false) (Rn.text ?_) (fun h1=> ?_) (fun h1=> ?_)|refine Ex.testB (false) (Rn.draw ?_) (fun h1=> ?_) (fun h1=> ?_)
 ·repeat' (first|refine cl (p85) ?_|refine gx ?_|refine fk (h1:=fun hw=> ?_) (h2:=fun hw=> ?_)|refine fpk (h1:=fun hw=> ?_) (h2:=fun hw=> ?_)|refine ⟨rfl,rfl,_,rfl,?_⟩|refine ⟨rfl,rfl⟩|fail)
  all_goals first|(simp [*,oneOrTuple];done)|(simp_all [oneOrTuple];done)|(simp_all [oneOrTuple,ltB_eq,leB_eq,eqB_eq,seB_eq];done)|(simp_all [oneOrTuple,ltB_eq,leB_eq,eqB_eq,seB_eq]<;>omega)
 ·cases h1
 repeat' (first|refine cl (p) ?_|refine gx ?_|fail)
 exact ⟨_,rfl,rfl⟩
theorem pf54f (c:Cat)(hs:Small2 c)(n:Int)(h:isSto c n=false):Pf A 54 [cat c,.d (num n)] (.own 1 0 []):=by
 have p85:=pf85 c hs n
 rw [h] at p85
 refine Pf.run [cat c,.d (num n),.any,.any] rfl rfl rfl rfl ?_
 repeat' (first|refine gx ?_|fail)
 first|refine Ex.testB (true) (Rn.text ?_) (fun h1=> ?_) (fun h1=> ?_)|refine Ex.testB (true) (Rn.draw ?_) (fun h1=> ?_) (fun h1=> ?_)
 ·repeat' (first|refine cl (p85) ?_|refine gx ?_|refine fk (h1:=fun hw=> ?_) (h2:=fun hw=> ?_)|refine fpk (h1:=fun hw=> ?_) (h2:=fun hw=> ?_)|refine ⟨rfl,rfl,_,rfl,?_⟩|refine ⟨rfl,rfl⟩|fail)
  all_goals first|(simp [*,oneOrTuple];done)|(simp_all [oneOrTuple];done)|(simp_all [oneOrTuple,ltB_eq,leB_eq,eqB_eq,seB_eq];done)|(simp_all [oneOrTuple,ltB_eq,leB_eq,eqB_eq,seB_eq]<;>omega)
 ·repeat' (first|refine gx ?_|fail)
  exact ⟨_,rfl,rfl⟩
 ·cases h1
theorem pf54t (c:Cat)(hs:Small2 c)(n:Int)(h:isSto c n=true):Pf A 54 [cat c,.d (num n)] (.d (ints (ctys c n.toNat))):=by
 have p85:=pf85 c hs n
 rw [h] at p85
 have h2:=valid_ok (isSto_v h)
 have h3:=(isSto_t h).2.2
 have p:=(pf_types c hs (Cat.ns c) n.toNat (by omega) (Nat.le_refl _) h2.2.2).1
 rw [Int.toNat_of_nonneg h3.1] at p
 refine Pf.run [cat c,.d (num n),.any,.any] rfl rfl rfl rfl ?_
 repeat' (first|refine gx ?_|fail)
 first|refine Ex.testB (false) (Rn.text ?_) (fun h1=> ?_) (fun h1=> ?_)|refine Ex.testB (false) (Rn.draw ?_) (fun h1=> ?_) (fun h1=> ?_)
 ·repeat' (first|refine cl (p85) ?_|refine gx ?_|refine fk (h1:=fun hw=> ?_) (h2:=fun hw=> ?_)|refine fpk (h1:=fun hw=> ?_) (h2:=fun hw=> ?_)|refine ⟨rfl,rfl,_,rfl,?_⟩|refine ⟨rfl,rfl⟩|fail)
  all_goals first|(simp [*,oneOrTuple];done)|(simp_all [oneOrTuple];done)|(simp_all [oneOrTuple,ltB_eq,leB_eq,eqB_eq,seB_eq];done)|(simp_all [oneOrTuple,ltB_eq,leB_eq,eqB_eq,seB_eq]<;>omega)
 ·cases h1
 repeat' (first|refine cl (p) ?_|refine gx ?_|fail)
 exact ⟨_,rfl,rfl⟩
end Go.Proofs.YtkmclibmmlgogaaGreat
namespace Go.Proofs.YtkmclibmmlgogaaGreat
open Go.Abs Go.Abs.S
attribute [local irreducible] Rx Ry Rn Ex Pf
def addI:List Int→Int→List Int
 |[],n=>[n]
 |x::l,n=>if x<n then x::addI l n else if x=n then x::l else n::x::l
theorem addI_at:∀ (l:List Int) (n:Int) (i:Nat),i≤l.length→(∀ j,j<i→nth l j<n)→(i<l.length→¬ nth l i<n)→addI l n=if i<l.length∧nth l i=n then l else l.take i++[n]++l.drop i
 |[],n,i,h,_,_=>by
  have:i=0:=by simpa using h
  subst this
  simp [addI]
 |x::l,n,0,h,_,h2=>by
  have h4:nth (x::l) 0=x:=nth_eq (by simp)
  have h3:¬ x<n:=by have:=h2 (by simp);rwa [h4] at this
  simp only [addI,h3,if_false,h4]
  simp
 |x::l,n,i+1,h,h1,h2=>by
  have h0:∀ j,j<l.length→nth (x::l) (j+1)=nth l j:=fun j hj=>by rw [nth_eq (by simp;omega),nth_eq hj];simp
  have h3:x<n:=by have:=h1 0 (by omega);rwa [nth_eq (by simp)] at this
  have hl:i≤l.length:=by simpa using h
  have ih:=addI_at l n i hl (fun j hj=>by rw [← h0 j (by omega)];exact h1 (j+1) (by omega)) (fun hi=>by rw [← h0 i hi];exact h2 (by simp;omega))
  simp only [addI,h3,if_true,ih]
  by_cases hi:i<l.length
  ·rw [h0 i hi]
   by_cases e:nth l i=n
   ·simp [hi,e]
   ·simp [e]
  ·simp [hi]
def IsL (w:AVal)(xs:List Int):Prop:=w= .d (ints xs)∨w=ownL 1 (fun n=>[num n]) xs
theorem IsL.as {w:AVal}{xs:List Int}(h:IsL w xs):w.asD= .d (ints xs):=by
 rcases h with rfl|rfl<;>rfl
set_option maxHeartbeats 2000000 in
theorem pf88 (l:List Int)(n:Int)(hl:l.length≤10000):∃ w,IsL w (addI l n)∧Pf A 88 [.d (ints l),.d (num n)] w:=by
 obtain ⟨i,hi1,hi2,hi3⟩:∃ i,i≤l.length∧(∀ j,j<i→nth l j<n)∧(i<l.length→¬ nth l i<n):=by
  clear hl
  induction l with
  |nil=>exact ⟨0,by simp,by simp,by simp⟩
  |cons x l ih =>
   by_cases hx:x<n
   ·obtain ⟨i,h1,h2,h3⟩:=ih
    have h0:∀ j,j<l.length→nth (x::l) (j+1)=nth l j:=fun j hj=>by rw [nth_eq (by simp;omega),nth_eq hj];simp
    refine ⟨i+1,by simp;omega,fun j hj=> ?_,fun hi=> ?_⟩
    ·cases j with
     |zero=>rw [nth_eq (by simp)];exact hx
     |succ j=>rw [h0 j (by omega)];exact h2 j (by omega)
    ·simp at hi
     rw [h0 i hi]
     exact h3 hi
   ·exact ⟨0,by simp,by simp,fun _=>by rw [nth_eq (by simp)];exact hx⟩
 have ha:=addI_at l n i hi1 hi2 hi3
 have key:∀ w,w=(if i<l.length∧nth l i=n then AVal.d (ints l) else ownL 1 (fun n=>[num n]) (l.take i++[n]++l.drop i))→IsL w (addI l n):=fun w hw=>by
  rw [ha,hw]
  split
  ·exact .inl rfl
  ·exact .inr rfl
 refine ⟨_,key _ rfl,?_⟩
 refine Pf.run [.d (ints l),.d (num n),.any,.any] rfl rfl rfl rfl ?_
 repeat' (first|refine gx ?_|fail)
 refine Ex.loopS (fun k T H=>∃ (j:Nat) (w2:AVal),T=[.d (ints l),.d (num n),w2,.d (num j)]∧H=[]∧j+k=i) (by rintro _ _ _ ⟨_,_,_,rfl,_⟩;rfl) ?_ (k:=i) ⟨0,_,rfl,rfl,by simp⟩
 rintro k _ _ ⟨j,w2,rfl,rfl,hk⟩
 refine Ex.nT ?_
 refine Ex.seq ?_
 have hj:j<i∨j=i:=by omega
 refine tb (ltB j l.length&&ltB (nth l j) n) (fun h1=> ?_) (fun h1=> ?_)
 ·simp only [Bool.and_eq_true] at h1
  have h2:=ltB_t h1.1
  have h3:=ltB_t h1.2
  repeat' (first|refine gx ?_|fail)
  refine ⟨k - 1,?_,j+1,_,rfl,rfl,?_⟩
  ·rcases hj with h|rfl
   ·omega
   ·exact absurd h3 (hi3 (by omega))
  ·rcases hj with h|rfl
   ·omega
   ·exact absurd h3 (hi3 (by omega))
 obtain rfl:j=i:=by
  rcases hj with h|h
  ·have:=hi2 j h
   simp only [Bool.and_eq_false_iff] at h1
   rcases h1 with h1|h1
   ·have:=ltB_f h1;omega
   ·have:=ltB_f h1;omega
  ·exact h
 repeat' (first|refine gx ?_|fail)
 refine tb (ltB j l.length&&eqB (nth l j) n) (fun h4=> ?_) (fun h4=> ?_)
 ·simp only [Bool.and_eq_true] at h4
  have h2:=ltB_t h4.1
  have h3:=eqB_t h4.2
  repeat' (first|refine gx ?_|fail)
  exact ⟨_,rfl,by rw [if_pos ⟨by omega,h3⟩];rfl⟩
 ·have e:¬ (j<l.length∧nth l j=n):=by
   rintro ⟨g1,g2⟩
   simp only [Bool.and_eq_false_iff] at h4
   rcases h4 with h4|h4
   ·have:=ltB_f h4;omega
   ·exact eqB_f h4 g2
  rw [if_neg e]
  repeat' (first|refine gx ?_|fail)
  exact ⟨_,rfl,rfl⟩
end Go.Proofs.YtkmclibmmlgogaaGreat
namespace Go.Proofs.YtkmclibmmlgogaaGreat
open Go.Abs Go.Abs.S
attribute [local irreducible] Rx Ry Rn Ex Pf
theorem idxS_take (s:Str):∀ (l:List Str) (k i:Nat),0≤idxS s (l.take k) i→idxS s l i=idxS s (l.take k) i
 |[],k,i,h=>by simp
 |d::l,0,i,h=>by simp [idxS] at h
 |d::l,k+1,i,h=>by
  simp only [List.take_succ_cons,idxS] at h ⊢
  split
  ·rfl
  ·rename_i h1
   rw [if_neg h1] at h
   exact idxS_take s l k (i+1) h
theorem find_sns {c:Cat}{s:Str}{k:Nat}(h:0≤findC c s k):idxS s (sns c) 0=findC c s k:=by
 unfold sns
 rw [stors_names c (Nat.le_refl _)]
 unfold findC at h ⊢
 rw [List.take_of_length_le (by rw [sn_len];exact Nat.le_refl _)]
 exact idxS_take s _ k 0 h
theorem add2 (i j:Int):addI [i] j=dedI (sortI [i,j]):=by
 rcases Int.lt_trichotomy i j with h|h|h
 ·simp only [addI,sortI,insI,if_pos h,if_pos (show i≤j by omega),dedI]
  rw [if_neg (by omega)]
 ·subst h
  simp [addI,sortI,insI,dedI]
 ·simp only [addI,sortI,insI,if_neg (show ¬ i<j by omega),if_neg (show ¬ i≤j by omega),if_neg (show ¬ i=j by omega),dedI,if_neg (show ¬ j=i by omega)]
theorem isSto_src {c:Cat}{n:Int}(h:isSto c n=true)(ht:c.tabs.length≤n):0≤findC c (nth c.views (n - c.tabs.length).toNat).left n.toNat∧(seB (nth c.views (n - c.tabs.length).toNat).right []=false→0≤findC c (nth c.views (n - c.tabs.length).toNat).right n.toNat):=by
 have h2:=(valid_ok (isSto_v h)).2.2
 have h3:=(isSto_t h).2.2
 have h4:=h2 n.toNat (by omega) (by omega)
 rw [show n.toNat - c.tabs.length=(n - c.tabs.length).toNat by omega] at h4
 exact h4
theorem pf55f (c:Cat)(hs:Small2 c)(n:Int)(h:isSto c n=false∨n<c.tabs.length):Pf A 55 [cat c,.d (num n)] (.own 1 0 []):=by
 have p85:=pf85 c hs n
 have e:(!isSto c n||ltB n c.tabs.length)=true:=by
  rcases h with h|h
  ·rw [h];rfl
  ·have:ltB n c.tabs.length=true:=by rw [ltB_eq];simpa using h
   rw [this];simp
 refine Pf.run [cat c,.d (num n),.any,.any,.any,.any] rfl rfl rfl rfl ?_
 repeat' (first|refine gx ?_|fail)
 first|refine Ex.testB (!isSto c n||ltB n c.tabs.length) (Rn.text ?_) (fun h1=> ?_) (fun h1=> ?_)|refine Ex.testB (!isSto c n||ltB n c.tabs.length) (Rn.draw ?_) (fun h1=> ?_) (fun h1=> ?_)
 ·repeat' (first|refine cl (p85) ?_|refine gx ?_|refine fk (h1:=fun hw=> ?_) (h2:=fun hw=> ?_)|refine fpk (h1:=fun hw=> ?_) (h2:=fun hw=> ?_)|refine ⟨rfl,rfl,_,rfl,?_⟩|refine ⟨rfl,rfl⟩|fail)
  all_goals first|(simp [*,oneOrTuple];done)|(simp_all [oneOrTuple];done)|(simp_all [oneOrTuple,ltB_eq,leB_eq,eqB_eq,seB_eq];done)|(simp_all [oneOrTuple,ltB_eq,leB_eq,eqB_eq,seB_eq]<;>omega)
 ·repeat' (first|refine gx ?_|fail)
  exact ⟨_,rfl,rfl⟩
 ·rw [e] at h1;cases h1
theorem pf55v (c:Cat)(hs:Small2 c)(n:Int)(h:isSto c n=true)(ht:c.tabs.length≤n):Pf A 55 [cat c,.d (num n)] (.d (ints (srcC c n))):=by
 have hns:Cat.ns c=c.tabs.length+c.views.length:=rfl
 obtain ⟨f0,f1,f2,f3,f4,f5,f6,f7⟩:=id hs.sm.few
 have p85:=pf85 c hs n
 have h3:=(isSto_t h).2.2
 have e:(!isSto c n||ltB n c.tabs.length)=false:=by
  have:ltB n c.tabs.length=false:=by rw [ltB_eq];simpa using ht
  rw [h,this];rfl
 have hk:=isSto_src h ht
 obtain ⟨s,rfl⟩:∃ s:Nat,n=s:=⟨n.toNat,(Int.toNat_of_nonneg h3.1).symm⟩
 obtain ⟨v,hv⟩:∃ v,nth c.views (s - c.tabs.length)=v:=⟨_,rfl⟩
 have hv2:((s:Int) - (c.tabs.length:Int)).toNat=s - c.tabs.length:=by omega
 rw [hv2,hv,Int.toNat_natCast] at hk
 have hsl:s - c.tabs.length<c.views.length:=by omega
 have p1:=pf84 c v.left s hs.sm.few (by omega)
 have p2:=pf84 c v.right s hs.sm.few (by omega)
 have e1:srcC c s=if seB v.right [] then [findC c v.left s] else addI [findC c v.left s] (findC c v.right s):=by
  unfold srcC srcL
  rw [show ltB (s:Int) c.tabs.length=false by rw [ltB_eq];simp;omega,hv2,hv,find_sns hk.1]
  cases g:seB v.right [] with
  |true=>simp [sortI,insI,dedI]
  |false=>simp only [Bool.false_eq_true,if_false];rw [find_sns (hk.2 g),add2]
 obtain ⟨w,hw,p88⟩:=pf88 [findC c v.left s] (findC c v.right s) (by simp)
 refine Pf.run [cat c,.d (num s),.any,.any,.any,.any] rfl rfl rfl rfl ?_
 repeat' (first|refine gx ?_|fail)
 first|refine Ex.testB (!isSto c s||ltB s c.tabs.length) (Rn.text ?_) (fun h1=> ?_) (fun h1=> ?_)|refine Ex.testB (!isSto c s||ltB s c.tabs.length) (Rn.draw ?_) (fun h1=> ?_) (fun h1=> ?_)
 ·repeat' (first|refine cl (p85) ?_|refine gx ?_|refine fk (h1:=fun hw=> ?_) (h2:=fun hw=> ?_)|refine fpk (h1:=fun hw=> ?_) (h2:=fun hw=> ?_)|refine ⟨rfl,rfl,_,rfl,?_⟩|refine ⟨rfl,rfl⟩|fail)
  all_goals first|(simp [*,oneOrTuple];done)|(simp_all [oneOrTuple];done)|(simp_all [oneOrTuple,ltB_eq,leB_eq,eqB_eq,seB_eq];done)|(simp_all [oneOrTuple,ltB_eq,leB_eq,eqB_eq,seB_eq]<;>omega)
 ·rw [e] at h1;cases h1
 repeat' (first|refine ixI (e:=(s:Int) - (c.tabs.length:Int)) (s - c.tabs.length) (h2:= ?_)|refine gx ?_|fail)
 rw [hv]
 repeat' (first|refine cl (p1) ?_|refine gx ?_|fail)
 refine tb (!seB v.right []) (fun h2=> ?_) (fun h2=> ?_)
 ·rw [Bool.not_eq_true'] at h2
  rw [h2,if_neg (by simp)] at e1
  rcases hw with rfl|rfl
  ·repeat' (first|refine cl (p2) ?_|refine cl (p88) ?_|refine gx ?_|fail)
   exact ⟨_,rfl,by rw [e1];rfl⟩
  ·repeat' (first|refine cl (p2) ?_|refine cl (p88) ?_|refine gx ?_|fail)
   exact ⟨_,rfl,by rw [e1];rfl⟩
 ·rw [Bool.not_eq_false'] at h2
  rw [h2,if_pos rfl] at e1
  repeat' (first|refine gx ?_|fail)
  exact ⟨_,rfl,by rw [e1];rfl⟩
end Go.Proofs.YtkmclibmmlgogaaGreat
