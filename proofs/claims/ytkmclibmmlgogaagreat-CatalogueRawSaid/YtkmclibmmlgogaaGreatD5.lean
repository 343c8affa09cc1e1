/-
  The reference's types of stores.; The reference's check of the columns of a view.
  (Put together by a small program out of several texts; blanks left out to keep the folder small.)
-/
import Derived.Test.YtkmclibmmlgogaaGreatD1
import Derived.Test.YtkmclibmmlgogaaGreatD3
import Derived.Test.YtkmclibmmlgogaaGreatB6
set_option linter.unusedVariables false
set_option linter.unusedSimpArgs false
namespace Go.Proofs.YtkmclibmmlgogaaGreat
open Go.Abs Go.Abs.S
attribute [local irreducible] Rx Ry Rn Ex Pf
structure Small2 (c:Cat):Prop where
 sm:Cat.small c
 items:∀ k,k<c.views.length→(nth c.views k).items.length≤1000
 aggs:∀ k,k<c.views.length→(nth c.views k).aggs.length≤1000
 on:∀ k,k<c.views.length→(nth c.views k).on.length≤1000
 wh:∀ k,k<c.views.length→(nth c.views k).wh.length≤1000
 itemE:∀ k i,k<c.views.length→i<(nth c.views k).items.length→(nth (nth c.views k).items i).expr.length≤1000
 aggE:∀ k i,k<c.views.length→i<(nth c.views k).aggs.length→(nth (nth c.views k).aggs i).expr.length≤1000
 bk:∀ k,k<c.bkps.length→(nth c.bkps k).tables.length≤1000
def aggTy (ty:List Int)(a:Agr):Int:=if eqB a.func 0||eqB a.func 1 then 1 else (typeS a.expr ty).1
def viewTys (v:Vw)(ty:List Int):List Int:=v.items.map (fun x=>(typeS x.expr ty).1)++v.aggs.map (aggTy ty)
def inTys (c:Cat)(prev:List (List Int))(v:Vw)(k:Nat):List Int:=nth prev (findC c v.left k).toNat++(if seB v.right [] then [] else nth prev (findC c v.right k).toNat)
def stTys (c:Cat)(prev:List (List Int))(k:Nat):List Int :=
 if k<c.tabs.length then (nth c.tabs k).cols.map Col.type
 else if eqB (nth c.views (k - c.tabs.length)).kind 2 then nth prev (findC c (nth c.views (k - c.tabs.length)).left k).toNat
 else viewTys (nth c.views (k - c.tabs.length)) (inTys c prev (nth c.views (k - c.tabs.length)) k)
def tysU (c:Cat):Nat→List (List Int)
 |0=>[]
 |k+1=>tysU c k++[stTys c (tysU c k) k]
def ctys (c:Cat)(k:Nat):List Int:=stTys c (tysU c k) k
def ins (c:Cat)(k:Nat):List Int:=inTys c (tysU c k) (nth c.views (k - c.tabs.length)) k
theorem tysU_len (c:Cat):∀ k,(tysU c k).length=k
 |0=>rfl
 |k+1=>by simp [tysU,tysU_len c k]
theorem tysU_nth (c:Cat):∀ {k j:Nat},j<k→nth (tysU c k) j=ctys c j
 |k+1,j,h=>by
  have hl:=tysU_len c k
  rcases Nat.lt_or_ge j k with h1|h1
  ·rw [← tysU_nth c h1,tysU,nth_eq (by simp;omega),nth_eq (by omega),List.getElem_append_left (by omega)]
  ·obtain rfl:j=k:=by omega
   rw [tysU,nth_eq (by simp [hl]),List.getElem_append_right (by omega)]
   simp [hl,ctys]
def srcOK (c:Cat)(n:Nat):Prop:=∀ k,c.tabs.length≤k→k<n→0≤findC c (nth c.views (k - c.tabs.length)).left k∧(seB (nth c.views (k - c.tabs.length)).right []=false→0≤findC c (nth c.views (k - c.tabs.length)).right k)
theorem findC_bound (c:Cat)(name:Str)(n:Nat):findC c name n= -1∨(0≤findC c name n∧findC c name n<n∧findC c name n<Cat.ns c):=by
 unfold findC
 rcases idxS_bound name ((Cat.sn c).take n) 0 with h|h
 ·exact Or.inl h
 ·right
  have:=sn_len c
  simp at h
  omega
theorem ctys_len {c:Cat}(hs:Small2 c):∀ (n k:Nat),k<n→n≤Cat.ns c→srcOK c n→(ctys c k).length≤2000
 |0,k,h,_,_=>absurd h (by omega)
 |n+1,k,h,hn,ho=>by
  rcases Nat.lt_or_ge k n with h1|h1
  ·exact ctys_len hs n k h1 (by omega) (fun k h1 h2=>ho k h1 (by omega))
  obtain rfl:k=n:=by omega
  unfold ctys stTys
  split
  ·rename_i h2
   have:=hs.sm.cols k h2
   simp;omega
  ·rename_i h2
   have hv:k - c.tabs.length<c.views.length:=by unfold Cat.ns at hn;omega
   split
   ·have h3:=(ho k (by omega) (by omega)).1
    rcases findC_bound c (nth c.views (k - c.tabs.length)).left k with h4|h4
    ·omega
    ·rw [tysU_nth c (by omega)]
     exact ctys_len hs k _ (by omega) (by omega) (fun k h1 h2=>ho k h1 (by omega))
   ·have h5:=hs.items _ hv
    have h6:=hs.aggs _ hv
    simp [viewTys]
    omega
set_option maxHeartbeats 8000000 in
theorem pf_types (c:Cat)(hs:Small2 c):∀ (n s:Nat),s<n→n≤Cat.ns c→srcOK c n→Pf A 87 [cat c,.d (num s)] (.d (ints (ctys c s)))∧(c.tabs.length≤s→Pf A 100 [cat c,.d (num s)] (.d (ints (ins c s))))
 |0,s,h,_,_=>absurd h (by omega)
 |n+1,s,h,hn,ho=>by
  have hns:Cat.ns c≤2000:=by obtain ⟨f0,f1,_⟩:=hs.sm.few;unfold Cat.ns;omega
  have hns2:Cat.ns c=c.tabs.length+c.views.length:=rfl
  rcases Nat.lt_or_ge s n with h1|h1
  ·exact pf_types c hs n s h1 (by omega) (fun k h1 h2=>ho k h1 (by omega))
  obtain rfl:s=n:=by omega
  have ih:∀ k,k<s→Pf A 87 [cat c,.d (num k)] (.d (ints (ctys c k))):=fun k hk=>(pf_types c hs s k hk (by omega) (fun k h1 h2=>ho k h1 (by omega))).1
  have hlen:∀ k,k<s→(ctys c k).length≤2000:=fun k hk=>ctys_len hs s k hk (by omega) (fun k h1 h2=>ho k h1 (by omega))
  have hin:c.tabs.length≤s→Pf A 100 [cat c,.d (num s)] (.d (ints (ins c s))):=fun ht=>by
   have hv:s - c.tabs.length<c.views.length:=by omega
   obtain ⟨o1,o2⟩:=ho s ht (by omega)
   have b1:=findC_bound c (nth c.views (s - c.tabs.length)).left s
   have b2:=findC_bound c (nth c.views (s - c.tabs.length)).right s
   obtain ⟨q1,e1⟩:∃ q:Nat,findC c (nth c.views (s - c.tabs.length)).left s=q:=⟨_,(Int.toNat_of_nonneg o1).symm⟩
   have p1:=pf84 c (nth c.views (s - c.tabs.length)).left s hs.sm.few (by omega)
   have p2:=pf84 c (nth c.views (s - c.tabs.length)).right s hs.sm.few (by omega)
   rw [e1] at p1
   have l1:=hlen q1 (by omega)
   have t1:=ih q1 (by omega)
   refine Pf.run [cat c,.d (num s),.any,.any,.any,.any] rfl rfl rfl rfl ?_
   repeat' (first|refine ixI (e:=(s:Int) - (c.tabs.length:Int)) (s - c.tabs.length) (h2:= ?_)|refine gx ?_|fail)
   repeat' (first|refine cl (p1) ?_|refine cl (t1) ?_|refine gx ?_|fail)
   refine tb (!seB (nth c.views (s - c.tabs.length)).right []) (fun h2=> ?_) (fun h2=> ?_)
   ·simp only [Bool.not_eq_true'] at h2
    obtain ⟨q2,e2⟩:∃ q:Nat,findC c (nth c.views (s - c.tabs.length)).right s=q:=⟨_,(Int.toNat_of_nonneg (o2 h2)).symm⟩
    rw [e2] at p2
    have l2:=hlen q2 (by omega)
    have t2:=ih q2 (by omega)
    repeat' (first|refine cl (p2) ?_|refine cl (t2) ?_|refine gx ?_|fail)
    refine ⟨_,rfl,?_⟩
    simp only [ins,inTys,e1,e2,Int.toNat_natCast,h2,Bool.false_eq_true,if_false]
    rw [tysU_nth c (by omega),tysU_nth c (by omega)]
    rfl
   ·simp only [Bool.not_eq_false'] at h2
    repeat' (first|refine gx ?_|fail)
    refine ⟨_,rfl,?_⟩
    simp only [ins,inTys,e1,Int.toNat_natCast,h2,if_true]
    rw [tysU_nth c (by omega)]
    simp [oneOrTuple,ints,encL]
  refine ⟨?_,hin⟩
  refine Pf.run [cat c,.d (num s),.any,.any,.any,.any,.any,.any,.any,.any,.any,.any] rfl rfl rfl rfl ?_
  repeat' (first|refine gx ?_|fail)
  refine tb (ltB s c.tabs.length) (fun h2=> ?_) (fun h2=> ?_)
  ·have h3:=ltB_t h2
   have hcl:=hs.sm.cols s (by omega)
   repeat' (first|refine gx ?_|fail)
   refine Ex.loopS (fun k T H=>∃ (i:Nat) (acc:List Int) (w0 w3 w6 w7 w8 w9 w10 w11:AVal),T=[w0,.d (num s),.ptr 0 0,w3,ownL 1 (fun n=>[num n]) acc,.d (num i),w6,w7,w8,w9,w10,w11]∧H=[.cells (c.enc.map .d)]∧i+k=(nth c.tabs s).cols.length∧acc=((nth c.tabs s).cols.take i).map Col.type) (by rintro _ _ _ ⟨_,_,_,_,_,_,_,_,_,_,_,rfl,_⟩;rfl) ?_ (k:=(nth c.tabs s).cols.length) ⟨0,[],_,_,_,_,_,_,_,_,rfl,rfl,by simp,by simp⟩
   rintro k _ _ ⟨i,acc,w0,w3,w6,w7,w8,w9,w10,w11,rfl,rfl,hk,hacc⟩
   have hl:acc.length=i:=by rw [hacc];simp;omega
   refine Ex.nT ?_
   repeat' (first|refine gx ?_|refine Ex.condP ?_|refine Ex.condN ?_|refine Ex.cond rfl (fun ht=> ?_) (fun ht=> ?_)|refine Ex.test (Rn.text ?_)|refine Ex.test (Rn.draw ?_)|refine ⟨_,rfl,fun ht=> ?_,fun ht=> ?_⟩|refine ⟨_,rfl,?_⟩|fail)
   ·have h4:=ltB_t ht
    refine ⟨k - 1,by omega,i+1,acc++[(nth (nth c.tabs s).cols i).type],_,_,_,_,_,_,_,_,rfl,rfl,by omega,?_⟩
    rw [take_nth (by omega),hacc]
    simp
   ·have h4:=ltB_f ht
    rw [List.take_of_length_le (by omega)] at hacc
    simp only [ctys,stTys]
    rw [if_pos (by omega),← hacc]
    rfl
  have h3:=ltB_f h2
  have hv:s - c.tabs.length<c.views.length:=by omega
  obtain ⟨o1,o2⟩:=ho s (by omega) (by omega)
  have b1:=findC_bound c (nth c.views (s - c.tabs.length)).left s
  have b2:=findC_bound c (nth c.views (s - c.tabs.length)).right s
  obtain ⟨q1,e1⟩:∃ q:Nat,findC c (nth c.views (s - c.tabs.length)).left s=q:=⟨_,(Int.toNat_of_nonneg o1).symm⟩
  have p1:=pf84 c (nth c.views (s - c.tabs.length)).left s hs.sm.few (by omega)
  rw [e1] at p1
  have l1:=hlen q1 (by omega)
  have t1:=ih q1 (by omega)
  have hil:(ins c s).length≤4000:=by
   simp only [ins,inTys,e1,Int.toNat_natCast]
   rw [tysU_nth c (by omega)]
   cases h5:seB (nth c.views (s - c.tabs.length)).right [] with
   |true=>simp;omega
   |false =>
    have h6:=o2 h5
    have h7:=hlen (findC c (nth c.views (s - c.tabs.length)).right s).toNat (by omega)
    rw [tysU_nth c (by omega)]
    simp
    omega
  have hi1:=hs.items _ hv
  have hi2:=hs.aggs _ hv
  repeat' (first|refine ixI (e:=(s:Int) - (c.tabs.length:Int)) (s - c.tabs.length) (h2:= ?_)|refine gx ?_|fail)
  refine tb (eqB (nth c.views (s - c.tabs.length)).kind 2) (fun h4=> ?_) (fun h4=> ?_)
  ·repeat' (first|refine cl (p1) ?_|refine cl (t1) ?_|refine gx ?_|fail)
   refine ⟨_,rfl,?_⟩
   have hct:ctys c s=nth (tysU c s) q1:=by
    unfold ctys stTys
    rw [if_neg (by omega),h4,if_pos rfl,e1]
    rfl
   rw [hct,tysU_nth c (by omega)]
   rfl
  repeat' (first|refine cl (hin (by omega)) ?_|refine gx ?_|fail)
  refine Ex.loopS (fun k T H=>∃ (i:Nat) (acc:List Int) (w0 w1 w2 w3 w5 w9 w10 w11:AVal),T=[w0,w1,w2,w3,ownL 1 (fun n=>[num n]) acc,w5,.ptr 1 0,.d (ints (ins c s)),.d (num i),w9,w10,w11]∧H=[.cells (c.enc.map .d),.cells ((nth c.views (s - c.tabs.length)).enc.map .d)]∧i+k=(nth c.views (s - c.tabs.length)).items.length∧acc=((nth c.views (s - c.tabs.length)).items.take i).map fun x=>(typeS x.expr (ins c s)).1) (by rintro _ _ _ ⟨_,_,_,_,_,_,_,_,_,_,_,rfl,_⟩;rfl) ?_ (k:=(nth c.views (s - c.tabs.length)).items.length) ⟨0,[],_,_,_,_,_,_,_,_,rfl,rfl,by simp,by simp⟩
  rintro k _ _ ⟨i,acc,w0,w1,w2,w3,w5,w9,w10,w11,rfl,rfl,hk,hacc⟩
  have hl:acc.length=i:=by rw [hacc];simp;omega
  refine Ex.nT ?_
  refine Ex.seq ?_
  refine tb (ltB i (nth c.views (s - c.tabs.length)).items.length) (fun h5=> ?_) (fun h5=> ?_)
  ·have h6:=ltB_t h5
   repeat' (first|refine cl (pf101 (nth (nth c.views (s - c.tabs.length)).items i).expr (ins c s) (hs.itemE (s - c.tabs.length) i hv (by omega)) (by omega)) ?_|refine gx ?_|fail)
   refine ⟨k - 1,by omega,i+1,acc++[(typeS (nth (nth c.views (s - c.tabs.length)).items i).expr (ins c s)).1],_,_,_,_,_,_,_,_,rfl,rfl,by omega,?_⟩
   rw [take_nth (by omega),hacc]
   simp
  have h6:=ltB_f h5
  rw [List.take_of_length_le (by omega)] at hacc
  clear h5 h6 hk hl
  repeat' (first|refine gx ?_|fail)
  have hl0:acc.length≤1000:=by rw [hacc];simp;omega
  refine Ex.loopS (fun k T H=>∃ (i:Nat) (acc2:List Int) (w0 w1 w2 w3 w5 w8 w9 w11:AVal),T=[w0,w1,w2,w3,ownL 1 (fun n=>[num n]) acc2,w5,.ptr 1 0,.d (ints (ins c s)),w8,w9,.d (num i),w11]∧H=[.cells (c.enc.map .d),.cells ((nth c.views (s - c.tabs.length)).enc.map .d)]∧i+k=(nth c.views (s - c.tabs.length)).aggs.length∧acc2=acc++((nth c.views (s - c.tabs.length)).aggs.take i).map (aggTy (ins c s))) (by rintro _ _ _ ⟨_,_,_,_,_,_,_,_,_,_,_,rfl,_⟩;rfl) ?_ (k:=(nth c.views (s - c.tabs.length)).aggs.length) ⟨0,acc,_,_,_,_,_,_,_,_,rfl,rfl,by simp,by simp⟩
  rintro k _ _ ⟨i,acc2,w0,w1,w2,w3,w5,w8,w9,w11,rfl,rfl,hk,hacc2⟩
  have hl:acc2.length=acc.length+i:=by rw [hacc2];simp;omega
  refine Ex.nT ?_
  refine Ex.seq ?_
  refine tb (ltB i (nth c.views (s - c.tabs.length)).aggs.length) (fun h5=> ?_) (fun h5=> ?_)
  ·have h6:=ltB_t h5
   repeat' (first|refine cl (pf101 (nth (nth c.views (s - c.tabs.length)).aggs i).expr (ins c s) (hs.aggE (s - c.tabs.length) i hv (by omega)) (by omega)) ?_|refine gx ?_|fail)
   refine tb (eqB (nth (nth c.views (s - c.tabs.length)).aggs i).func 0||eqB (nth (nth c.views (s - c.tabs.length)).aggs i).func 1) (fun h7=> ?_) (fun h7=> ?_)
   ·repeat' (first|refine gx ?_|fail)
    refine ⟨k - 1,by omega,i+1,acc2++[1],_,_,_,_,_,_,_,_,rfl,rfl,by omega,?_⟩
    rw [take_nth (by omega),hacc2]
    simp [aggTy,h7]
   ·repeat' (first|refine gx ?_|fail)
    refine ⟨k - 1,by omega,i+1,acc2++[(typeS (nth (nth c.views (s - c.tabs.length)).aggs i).expr (ins c s)).1],_,_,_,_,_,_,_,_,rfl,rfl,by omega,?_⟩
    rw [take_nth (by omega),hacc2]
    simp [aggTy,h7]
  ·have h6:=ltB_f h5
   rw [List.take_of_length_le (by omega)] at hacc2
   repeat' (first|refine gx ?_|fail)
   refine ⟨_,rfl,?_⟩
   simp only [ctys,stTys]
   rw [if_neg (by omega),h4,if_neg (by simp)]
   simp only [viewTys]
   rw [show inTys c (tysU c s) (nth c.views (s - c.tabs.length)) s=ins c s from rfl,← hacc,← hacc2]
   rfl
end Go.Proofs.YtkmclibmmlgogaaGreat
namespace Go.Proofs.YtkmclibmmlgogaaGreat
open Go.Abs Go.Abs.S
attribute [local irreducible] Rx Ry Rn Ex Pf
structure Ent where
 agg:Bool
 name:Str
 f:Int
 expr:List Trm
instance:Inhabited Ent:=⟨⟨false,[],0,[]⟩⟩
def ents (v:Vw):List Ent:=v.items.map (fun x=>⟨false,x.name, -1,x.expr⟩)++v.aggs.map (fun x=>⟨true,x.name,x.func,x.expr⟩)
def colsE (ty:List Int):List Str→List Ent→Int
 |_,[]=>0
 |seen,e::r =>
  if !isNameB e.name then 3
  else if seen.any fun y=>seB y e.name then 4
  else if e.agg&&(!withinB e.f 0 4||(eqB e.f 0&&ltB 0 e.expr.length)) then 1
  else if e.agg&&eqB e.f 0 then colsE ty (seen++[e.name]) r
  else if !eqB (typeS e.expr ty).2 0 then (typeS e.expr ty).2
  else if e.agg&&eqB e.f 1&& !eqB (typeS e.expr ty).1 1 then 5
  else colsE ty (seen++[e.name]) r
theorem ents_len (v:Vw):(ents v).length=v.items.length+v.aggs.length:=by simp [ents]
theorem ents_item (v:Vw){i:Nat}(h:i<v.items.length):nth (ents v) i=⟨false,(nth v.items i).name, -1,(nth v.items i).expr⟩:=by
 rw [nth_eq (by rw [ents_len];omega),nth_eq h]
 simp [ents,List.getElem_append_left,h]
theorem ents_agg (v:Vw){i:Nat}(h:v.items.length≤i)(h2:i<v.items.length+v.aggs.length):nth (ents v) i=⟨true,(nth v.aggs (i - v.items.length)).name,(nth v.aggs (i - v.items.length)).func,(nth v.aggs (i - v.items.length)).expr⟩:=by
 rw [nth_eq (by rw [ents_len];omega),nth_eq (by omega)]
 simp [ents,List.getElem_append_right,h]
theorem ents_flag (v:Vw){i:Nat}(h:i<v.items.length+v.aggs.length):(nth (ents v) i).agg=leB v.items.length i:=by
 rcases Nat.lt_or_ge i v.items.length with h1|h1
 ·rw [ents_item v h1];simp [leB_eq];omega
 ·rw [ents_agg v h1 h];simp [leB_eq];omega
set_option maxHeartbeats 16000000 in
theorem pf102 (v:Vw)(ty:List Int)(h0:v.items.length≤1000)(h1:v.aggs.length≤1000)(h2:ty.length≤100000)(h3:∀ i,i<v.items.length→(nth v.items i).expr.length≤1000)(h4:∀ i,i<v.aggs.length→(nth v.aggs i).expr.length≤1000) :
  Pf A 102 [vw v,.d (ints ty)] (.d (num (colsE ty [] (ents v)))):=by
 have hel:=ents_len v
 refine Pf.run [vw v,.d (ints ty),.any,.any,.any,.any,.any,.any,.any,.any,.any,.any,.any] rfl rfl rfl rfl ?_
 repeat' (first|refine gx ?_|fail)
 refine Ex.loopC (fun k T H=>∃ (i:Nat) (seen:List Str),T=[.any,.d (ints ty),.ptr 0 0,.any,ownL 1 (fun s=>[.str s]) seen,.d (num i),.any,.any,.any,.any,.any,.any,.any]∧H=[.cells (v.enc.map .d)]∧i+k=(ents v).length∧seen.length=i∧colsE ty [] (ents v)=colsE ty seen ((ents v).drop i)) ?_ (k:=(ents v).length) ⟨0,[],rfl,rfl,by simp,rfl,by simp⟩
 rintro k _ _ ⟨i,seen,rfl,rfl,hk,hse,hi⟩
 refine Ex.seq ?_
 first|refine Ex.testB (ltB i (ents v).length) (Rn.text ?_) (fun h5=> ?_) (fun h5=> ?_)|refine Ex.testB (ltB i (ents v).length) (Rn.draw ?_) (fun h5=> ?_) (fun h5=> ?_)
 ·repeat' (first|refine cl (hel) ?_|refine gx ?_|refine fk (h1:=fun hw=> ?_) (h2:=fun hw=> ?_)|refine fpk (h1:=fun hw=> ?_) (h2:=fun hw=> ?_)|refine ⟨rfl,rfl,_,rfl,?_⟩|refine ⟨rfl,rfl⟩|fail)
  all_goals first|(simp [*,oneOrTuple];done)|(simp_all [oneOrTuple];done)|(simp_all [oneOrTuple,ltB_eq,leB_eq,eqB_eq,seB_eq];done)|(simp_all [oneOrTuple,ltB_eq,leB_eq,eqB_eq,seB_eq]<;>omega)
 ·have h6:=ltB_t h5
  have hix:i<v.items.length+v.aggs.length:=by omega
  rw [drop_nth (by omega)] at hi
  have hfl:=ents_flag v hix
  repeat' (first|refine gx ?_|fail)
  refine Ex.thru (fun s=>∃ (f:Int) (H2:Heap) (w9:AVal),s=⟨[.any,.d (ints ty),.ptr 0 0,.any,ownL 1 (fun s=>[.str s]) seen,.d (num i),.d (.str (nth (ents v) i).name),.d (num (nth (ents v) i).f),.d (encL Trm.enc (nth (ents v) i).expr),w9,.any,.any,.any],.cells (v.enc.map .d)::H2⟩∧(nth (ents v) i).expr.length≤1000) ?_ ?_
  ·skip
   refine tb (ltB i v.items.length) (fun h7=> ?_) (fun h7=> ?_)
   ·have h8:=ltB_t h7
    have he:=h3 i (by omega)
    rw [ents_item v (by omega)]
    repeat' (first|refine gx ?_|fail)
    exact ⟨-1,_,_,rfl,he⟩
   ·have h8:=ltB_f h7
    have he:=h4 (i - v.items.length) (by omega)
    rw [ents_agg v (by omega) hix]
    repeat' (first|refine ixI (e:=(i:Int) - (v.items.length:Int)) (i - v.items.length) (h2:= ?_)|refine gx ?_|fail)
    exact ⟨0,_,_,rfl,he⟩
  rintro _ ⟨f,H2,w9,rfl,he⟩
  generalize hen:nth (ents v) i=en at *
  obtain ⟨ag,nm,ef,ex⟩:=en
  simp only at *
  subst hfl
  have ht101:=pf101 ex ty he h2
  repeat' (first|refine gx ?_|fail)
  first|refine Ex.testB (!isNameB nm) (Rn.text ?_) (fun g1=> ?_) (fun g1=> ?_)|refine Ex.testB (!isNameB nm) (Rn.draw ?_) (fun g1=> ?_) (fun g1=> ?_)
  ·repeat' (first|refine cl (pf64 _) ?_|refine gx ?_|refine fk (h1:=fun hw=> ?_) (h2:=fun hw=> ?_)|refine fpk (h1:=fun hw=> ?_) (h2:=fun hw=> ?_)|refine ⟨rfl,rfl,_,rfl,?_⟩|refine ⟨rfl,rfl⟩|fail)
   all_goals first|(simp [*,oneOrTuple];done)|(simp_all [oneOrTuple];done)|(simp_all [oneOrTuple,ltB_eq,leB_eq,eqB_eq,seB_eq];done)|(simp_all [oneOrTuple,ltB_eq,leB_eq,eqB_eq,seB_eq]<;>omega)
  ·repeat' (first|refine gx ?_|fail)
   exact ⟨_,rfl,by rw [hi];simp only [colsE,g1,oneOrTuple,num,if_true]⟩
  repeat' (first|refine gx ?_|fail)
  refine Ex.loopS (fun k T H=>∃ (j:Nat) (w0 w3 w9 w11 w12:AVal),T=[w0,.d (ints ty),.ptr 0 0,w3,ownL 1 (fun s=>[.str s]) seen,.d (num i),.d (.str nm),.d (num ef),.d (encL Trm.enc ex),w9,.d (num j),w11,w12]∧H= .cells (v.enc.map .d)::H2∧j+k=seen.length∧(seen.any fun y=>seB y nm)=((seen.drop j).any fun y=>seB y nm)) (by rintro _ _ _ ⟨_,_,_,_,_,_,_,rfl,_⟩;rfl) ?_ (k:=seen.length) ⟨0,_,_,_,_,_,rfl,rfl,by simp,by simp⟩
  rintro k2 _ _ ⟨j,w0,w3,w9,w11,w12,rfl,rfl,hk2,hj⟩
  refine Ex.nT ?_
  refine Ex.seq ?_
  refine tb (ltB j seen.length) (fun g0=> ?_) (fun g0=> ?_)
  ·have g00:=ltB_t g0
   rw [drop_nth (by omega)] at hj
   repeat' (first|refine gx ?_|refine Ex.condP ?_|refine Ex.condN ?_|refine Ex.cond rfl (fun ht=> ?_) (fun ht=> ?_)|refine Ex.test (Rn.text ?_)|refine Ex.test (Rn.draw ?_)|refine ⟨_,rfl,fun ht=> ?_,fun ht=> ?_⟩|refine ⟨_,rfl,?_⟩|fail)
   ·have g2:(seen.any fun y=>seB y nm)=true:=by rw [hj];simp [ht]
    rw [hi]
    simp only [colsE,g1,g2,oneOrTuple,num,Bool.false_eq_true,if_true,if_false]
   ·exact ⟨k2 - 1,by omega,j+1,_,_,_,_,_,rfl,rfl,by omega,by rw [hj];simp [ht]⟩
  have g00:=ltB_f g0
  rw [List.drop_of_length_le (by omega)] at hj
  have g2:(seen.any fun y=>seB y nm)=false:=by rw [hj];rfl
  clear hj hk2 g0 g00
  repeat' (first|refine gx ?_|fail)
  first|refine Ex.testB (leB v.items.length i&&(!withinB ef 0 4||(eqB ef 0&&ltB 0 ex.length))) (Rn.text ?_) (fun g3=> ?_) (fun g3=> ?_)|refine Ex.testB (leB v.items.length i&&(!withinB ef 0 4||(eqB ef 0&&ltB 0 ex.length))) (Rn.draw ?_) (fun g3=> ?_) (fun g3=> ?_)
  ·repeat' (first|refine cl (pf95 _ _ _) ?_|refine gx ?_|refine fk (h1:=fun hw=> ?_) (h2:=fun hw=> ?_)|refine fpk (h1:=fun hw=> ?_) (h2:=fun hw=> ?_)|refine ⟨rfl,rfl,_,rfl,?_⟩|refine ⟨rfl,rfl⟩|fail)
   all_goals first|(simp [*,oneOrTuple];done)|(simp_all [oneOrTuple];done)|(simp_all [oneOrTuple,ltB_eq,leB_eq,eqB_eq,seB_eq];done)|(simp_all [oneOrTuple,ltB_eq,leB_eq,eqB_eq,seB_eq]<;>omega)
  ·repeat' (first|refine gx ?_|fail)
   exact ⟨_,rfl,by rw [hi];simp only [colsE,g1,g2,g3,oneOrTuple,num,Bool.false_eq_true,if_true,if_false]⟩
  repeat' (first|refine gx ?_|fail)
  refine tb (leB v.items.length i&&eqB ef 0) (fun g4=> ?_) (fun g4=> ?_)
  ·repeat' (first|refine gx ?_|fail)
   exact ⟨k - 1,by omega,_,_,rfl,i+1,seen++[nm],rfl,rfl,by omega,by simp [hse],by rw [hi];simp only [colsE,g1,g2,g3,g4,Bool.false_eq_true,if_true,if_false]⟩
  repeat' (first|refine cl (ht101) ?_|refine gx ?_|fail)
  refine tb (!eqB (typeS ex ty).2 0) (fun g5=> ?_) (fun g5=> ?_)
  ·repeat' (first|refine gx ?_|fail)
   exact ⟨_,rfl,by rw [hi];simp only [colsE,g1,g2,g3,g4,g5,oneOrTuple,Bool.false_eq_true,if_true,if_false]⟩
  repeat' (first|refine gx ?_|fail)
  refine tb (leB v.items.length i&&eqB ef 1&& !eqB (typeS ex ty).1 1) (fun g6=> ?_) (fun g6=> ?_)
  ·repeat' (first|refine gx ?_|fail)
   exact ⟨_,rfl,by rw [hi];simp only [colsE,g1,g2,g3,g4,g5,g6,oneOrTuple,num,Bool.false_eq_true,if_true,if_false]⟩
  ·repeat' (first|refine gx ?_|fail)
   exact ⟨k - 1,by omega,_,_,rfl,i+1,seen++[nm],rfl,rfl,by omega,by simp [hse],by rw [hi];simp only [colsE,g1,g2,g3,g4,g5,g6,Bool.false_eq_true,if_true,if_false]⟩
 ·have h6:=ltB_f h5
  rw [List.drop_of_length_le (by omega)] at hi
  repeat' (first|refine gx ?_|fail)
  exact ⟨_,rfl,by rw [hi];rfl⟩
end Go.Proofs.YtkmclibmmlgogaaGreat
