/-
  The reference's check of a view.; The reference's checks of the other declarations.; The reference's check of the declarations behind the stores.; The reference's Check.
  (Put together by a small program out of several texts; blanks left out to keep the folder small.)
-/
import Derived.Test.YtkmclibmmlgogaaGreatD5
import Derived.Test.YtkmclibmmlgogaaGreatB6
set_option linter.unusedVariables false
set_option linter.unusedSimpArgs false
namespace Go.Proofs.YtkmclibmmlgogaaGreat
open Go.Abs Go.Abs.S
attribute [local irreducible] Rx Ry Rn Ex Pf
def vOf (c:Cat)(k:Nat):Vw:=nth c.views (k - c.tabs.length)
def lT (c:Cat)(k:Nat):List Int:=nth (tysU c k) (findC c (vOf c k).left k).toNat
def rT (c:Cat)(k:Nat):List Int:=if seB (vOf c k).right [] then [] else nth (tysU c k) (findC c (vOf c k).right k).toNat
def viewErr (c:Cat)(k:Nat):Int :=
 if !withinB (vOf c k).kind 0 2 then 1
 else if ltB (findC c (vOf c k).left k) 0||(!seB (vOf c k).right []&&ltB (findC c (vOf c k).right k) 0) then 7
 else if !shapeB (vOf c k) then 1
 else if eqB (vOf c k).kind 2 then (if !sameB eqB (lT c k) (rT c k) then 5 else 0)
 else if !eqB (pairsErr (lT c k) (rT c k) (vOf c k).on) 0 then pairsErr (lT c k) (rT c k) (vOf c k).on
 else if ltB 0 (vOf c k).wh.length&& !eqB (typeS (vOf c k).wh (ins c k)).2 0 then (typeS (vOf c k).wh (ins c k)).2
 else if ltB 0 (vOf c k).wh.length&& !eqB (typeS (vOf c k).wh (ins c k)).1 1 then 5
 else colsE (ins c k) [] (ents (vOf c k))
set_option maxHeartbeats 16000000 in
theorem pf66 (c:Cat)(hs:Small2 c)(k:Nat)(hk:c.tabs.length≤k)(hk2:k<Cat.ns c)(ho:srcOK c k):Pf A 66 [cat c,.d (num k)] (.d (num (viewErr c k))):=by
 have hns:Cat.ns c≤2000:=by obtain ⟨f0,f1,_⟩:=hs.sm.few;unfold Cat.ns;omega
 have hns2:Cat.ns c=c.tabs.length+c.views.length:=rfl
 have hv:k - c.tabs.length<c.views.length:=by omega
 have hv1:(vOf c k).items.length≤1000:=hs.items _ hv
 have hv2:(vOf c k).aggs.length≤1000:=hs.aggs _ hv
 have hv3:(vOf c k).on.length≤1000:=hs.on _ hv
 have hv4:(vOf c k).wh.length≤1000:=hs.wh _ hv
 have hve:nth c.views (k - c.tabs.length)=vOf c k:=rfl
 have p1:=pf84 c (vOf c k).left k hs.sm.few (by omega)
 have p2:=pf84 c (vOf c k).right k hs.sm.few (by omega)
 have p3:=pf97 c (vOf c k) hv1 hv2
 have b1:=findC_bound c (vOf c k).left k
 have b2:=findC_bound c (vOf c k).right k
 refine Pf.run [cat c,.d (num k),.any,.any,.any,.any,.any,.any,.any,.any,.any,.any,.any] rfl rfl rfl rfl ?_
 repeat' (first|refine ixI (e:=(k:Int) - (c.tabs.length:Int)) (k - c.tabs.length) (h2:= ?_)|refine gx ?_|fail)
 rw [hve]
 first|refine Ex.testB (!withinB (vOf c k).kind 0 2) (Rn.text ?_) (fun h1=> ?_) (fun h1=> ?_)|refine Ex.testB (!withinB (vOf c k).kind 0 2) (Rn.draw ?_) (fun h1=> ?_) (fun h1=> ?_)
 ·repeat' (first|refine cl (pf95 _ _ _) ?_|refine gx ?_|refine fk (h1:=fun hw=> ?_) (h2:=fun hw=> ?_)|refine fpk (h1:=fun hw=> ?_) (h2:=fun hw=> ?_)|refine ⟨rfl,rfl,_,rfl,?_⟩|refine ⟨rfl,rfl⟩|fail)
  all_goals first|(simp [*,oneOrTuple];done)|(simp_all [oneOrTuple];done)|(simp_all [oneOrTuple,ltB_eq,leB_eq,eqB_eq,seB_eq];done)|(simp_all [oneOrTuple,ltB_eq,leB_eq,eqB_eq,seB_eq]<;>omega)
 ·repeat' (first|refine gx ?_|fail)
  exact ⟨_,rfl,by unfold viewErr;rw [h1];rfl⟩
 repeat' (first|refine cl (p1) ?_|refine cl (p2) ?_|refine gx ?_|fail)
 refine tb (ltB (findC c (vOf c k).left k) 0||(!seB (vOf c k).right []&&ltB (findC c (vOf c k).right k) 0)) (fun h2=> ?_) (fun h2=> ?_)
 ·repeat' (first|refine gx ?_|fail)
  exact ⟨_,rfl,by unfold viewErr;rw [h1,h2];rfl⟩
 have h2' :=h2
 simp only [Bool.or_eq_false_iff] at h2'
 have f1:=ltB_f h2'.1
 have f2:seB (vOf c k).right []=false→0≤findC c (vOf c k).right k:=fun h=>by
  have:=h2'.2
  simp only [h,Bool.not_false,Bool.true_and] at this
  exact ltB_f this
 have ho2:srcOK c (k+1):=fun m h h' =>by
  rcases Nat.lt_or_ge m k with h3|h3
  ·exact ho m h h3
  ·obtain rfl:m=k:=by omega
   exact ⟨f1,f2⟩
 obtain ⟨q1,e1⟩:∃ q:Nat,findC c (vOf c k).left k=q:=⟨_,(Int.toNat_of_nonneg f1).symm⟩
 have t1:=(pf_types c hs (k+1) q1 (by omega) (by omega) ho2).1
 have ti:=(pf_types c hs (k+1) k (by omega) (by omega) ho2).2 hk
 have l1:=ctys_len hs (k+1) q1 (by omega) (by omega) ho2
 have eL:lT c k=ctys c q1:=by unfold lT;rw [e1,Int.toNat_natCast,tysU_nth c (by omega)]
 first|refine Ex.testB (!shapeB (vOf c k)) (Rn.text ?_) (fun h3=> ?_) (fun h3=> ?_)|refine Ex.testB (!shapeB (vOf c k)) (Rn.draw ?_) (fun h3=> ?_) (fun h3=> ?_)
 ·repeat' (first|refine cl (p3) ?_|refine gx ?_|refine fk (h1:=fun hw=> ?_) (h2:=fun hw=> ?_)|refine fpk (h1:=fun hw=> ?_) (h2:=fun hw=> ?_)|refine ⟨rfl,rfl,_,rfl,?_⟩|refine ⟨rfl,rfl⟩|fail)
  all_goals first|(simp [*,oneOrTuple];done)|(simp_all [oneOrTuple];done)|(simp_all [oneOrTuple,ltB_eq,leB_eq,eqB_eq,seB_eq];done)|(simp_all [oneOrTuple,ltB_eq,leB_eq,eqB_eq,seB_eq]<;>omega)
 ·repeat' (first|refine gx ?_|fail)
  exact ⟨_,rfl,by unfold viewErr;rw [h1,h2,h3];rfl⟩
 rw [e1]
 repeat' (first|refine cl (t1) ?_|refine gx ?_|fail)
 refine Ex.thru (fun s=>∃ (w6 w8:AVal),s=⟨[cat c,.d (num k),.ptr 0 0,.d (num 0),.ptr 1 0,.d (num q1),w6,.d (ints (ctys c q1)),w8,.any,.any,.any,.any],[.cells (c.enc.map .d),.cells ((vOf c k).enc.map .d)]⟩∧w8.asD= .d (ints (rT c k))∧(rT c k).length≤2000) ?_ ?_
 ·skip
  refine tb (!seB (vOf c k).right []) (fun h4=> ?_) (fun h4=> ?_)
  ·simp only [Bool.not_eq_true'] at h4
   obtain ⟨q2,e2⟩:∃ q:Nat,findC c (vOf c k).right k=q:=⟨_,(Int.toNat_of_nonneg (f2 h4)).symm⟩
   have t2:=(pf_types c hs (k+1) q2 (by omega) (by omega) ho2).1
   have l2:=ctys_len hs (k+1) q2 (by omega) (by omega) ho2
   have eR:rT c k=ctys c q2:=by unfold rT;rw [h4,e2,if_neg (by simp),Int.toNat_natCast,tysU_nth c (by omega)]
   rw [e2]
   repeat' (first|refine cl (t2) ?_|refine gx ?_|fail)
   exact ⟨_,_,rfl,by rw [eR];rfl,by rw [eR];exact l2⟩
  ·simp only [Bool.not_eq_false'] at h4
   have eR:rT c k=[]:=by unfold rT;rw [h4,if_pos rfl]
   repeat' (first|refine gx ?_|fail)
   exact ⟨_,_,rfl,by rw [eR];rfl,by rw [eR];simp⟩
 rintro _ ⟨w6,w8,rfl,hw8,lR⟩
 have hin:(ins c k).length≤100000:=by
  have:ins c k=lT c k++rT c k:=rfl
  rw [this,eL]
  simp
  omega
 have pS:=pf98 (ctys c q1) (rT c k) (by omega)
 have pP:=pf99 (vOf c k).on (ctys c q1) (rT c k) hv3 (by omega) (by omega)
 have pW:=pf101 (vOf c k).wh (ins c k) hv4 hin
 have pC:=pf102 (vOf c k) (ins c k) hv1 hv2 hin (fun i h=>hs.itemE _ i hv h) (fun i h=>hs.aggE _ i hv h)
 have eL' :=eL.symm
 rw [eL']
 rw [← eL] at pS pP
 clear p1 p2 p3 t1 eL' eL
 repeat' (first|refine gx ?_|fail)
 refine tb (eqB (vOf c k).kind 2) (fun h5=> ?_) (fun h5=> ?_)
 ·repeat' (first|refine gx ?_|fail)
  first|refine Ex.testB (!sameB eqB (lT c k) (rT c k)) (Rn.text ?_) (fun h6=> ?_) (fun h6=> ?_)|refine Ex.testB (!sameB eqB (lT c k) (rT c k)) (Rn.draw ?_) (fun h6=> ?_) (fun h6=> ?_)
  ·repeat' (first|refine mvS hw8 ?_|refine cl (pS) ?_|refine gx ?_|refine fk (h1:=fun hw=> ?_) (h2:=fun hw=> ?_)|refine fpk (h1:=fun hw=> ?_) (h2:=fun hw=> ?_)|refine ⟨rfl,rfl,_,rfl,?_⟩|refine ⟨rfl,rfl⟩|fail)
   all_goals first|(simp [*,oneOrTuple];done)|(simp_all [oneOrTuple];done)|(simp_all [oneOrTuple,ltB_eq,leB_eq,eqB_eq,seB_eq];done)|(simp_all [oneOrTuple,ltB_eq,leB_eq,eqB_eq,seB_eq]<;>omega)
  ·repeat' (first|refine gx ?_|fail)
   exact ⟨_,rfl,by unfold viewErr;rw [h1,h2,h3,h5,h6];rfl⟩
  ·repeat' (first|refine gx ?_|fail)
   exact ⟨_,rfl,by unfold viewErr;rw [h1,h2,h3,h5,h6];rfl⟩
 repeat' (first|refine mvS hw8 ?_|refine cl (pP) ?_|refine gx ?_|fail)
 refine tb (!eqB (pairsErr (lT c k) (rT c k) (vOf c k).on) 0) (fun h6=> ?_) (fun h6=> ?_)
 ·repeat' (first|refine gx ?_|fail)
  exact ⟨_,rfl,by unfold viewErr;rw [h1,h2,h3,h5,h6];rfl⟩
 repeat' (first|refine cl (ti) ?_|refine gx ?_|fail)
 refine tb (ltB 0 (vOf c k).wh.length) (fun h7=> ?_) (fun h7=> ?_)
 ·repeat' (first|refine cl (pW) ?_|refine gx ?_|fail)
  refine tb (!eqB (typeS (vOf c k).wh (ins c k)).2 0) (fun h8=> ?_) (fun h8=> ?_)
  ·repeat' (first|refine gx ?_|fail)
   exact ⟨_,rfl,by unfold viewErr;rw [h1,h2,h3,h5,h6,h7,h8];rfl⟩
  repeat' (first|refine gx ?_|fail)
  refine tb (!eqB (typeS (vOf c k).wh (ins c k)).1 1) (fun h9=> ?_) (fun h9=> ?_)
  ·repeat' (first|refine gx ?_|fail)
   exact ⟨_,rfl,by unfold viewErr;rw [h1,h2,h3,h5,h6,h7,h8,h9];rfl⟩
  repeat' (first|refine cl (pC) ?_|refine gx ?_|fail)
  exact ⟨_,rfl,by unfold viewErr;rw [h1,h2,h3,h5,h6,h7,h8,h9];rfl⟩
 ·repeat' (first|refine cl (pC) ?_|refine gx ?_|fail)
  exact ⟨_,rfl,by unfold viewErr;rw [h1,h2,h3,h5,h6,h7];rfl⟩
end Go.Proofs.YtkmclibmmlgogaaGreat
namespace Go.Proofs.YtkmclibmmlgogaaGreat
open Go.Abs Go.Abs.S
attribute [local irreducible] Rx Ry Rn Ex Pf
def srcE (c:Cat)(name:Str)(col:Int):Int×Int :=
 if ltB (findC c name (Cat.ns c)) 0 then (0,7)
 else if !withinB col 0 ((ctys c (findC c name (Cat.ns c)).toNat).length - 1) then (0,3)
 else (nth (ctys c (findC c name (Cat.ns c)).toNat) col.toNat,0)
theorem ns_few {c:Cat}(hs:Small2 c):Cat.ns c≤2000:=by obtain ⟨f0,f1,_⟩:=hs.sm.few;unfold Cat.ns;omega
theorem pf103 (c:Cat)(hs:Small2 c)(ho:srcOK c (Cat.ns c))(name:Str)(col:Int):Pf A 103 [cat c,.d (.str name),.d (num col)] (.tuple [.d (num (srcE c name col).1),.d (num (srcE c name col).2)]):=by
 have hns:=ns_few hs
 have hns2:Cat.ns c=c.tabs.length+c.views.length:=rfl
 have p1:=pf84 c name (Cat.ns c) hs.sm.few (by omega)
 have b1:=findC_bound c name (Cat.ns c)
 refine Pf.run [cat c,.d (.str name),.d (num col),.any,.any,.any,.any,.any] rfl rfl rfl rfl ?_
 repeat' (first|refine cl (p1) ?_|refine gx ?_|fail)
 refine tb (ltB (findC c name (Cat.ns c)) 0) (fun h1=> ?_) (fun h1=> ?_)
 ·repeat' (first|refine gx ?_|fail)
  exact ⟨_,rfl,by simp only [srcE,h1,if_true];rfl⟩
 have h2:=ltB_f h1
 obtain ⟨q,e1⟩:∃ q:Nat,findC c name (Cat.ns c)=q:=⟨_,(Int.toNat_of_nonneg h2).symm⟩
 have t1:=(pf_types c hs (Cat.ns c) q (by omega) (by omega) ho).1
 have l1:=ctys_len hs (Cat.ns c) q (by omega) (by omega) ho
 rw [e1] at h1 ⊢
 repeat' (first|refine cl (t1) ?_|refine gx ?_|fail)
 first|refine Ex.testB (!withinB col 0 ((ctys c q).length - 1)) (Rn.text ?_) (fun h3=> ?_) (fun h3=> ?_)|refine Ex.testB (!withinB col 0 ((ctys c q).length - 1)) (Rn.draw ?_) (fun h3=> ?_) (fun h3=> ?_)
 ·repeat' (first|refine cl (pf95 _ _ _) ?_|refine gx ?_|refine fk (h1:=fun hw=> ?_) (h2:=fun hw=> ?_)|refine fpk (h1:=fun hw=> ?_) (h2:=fun hw=> ?_)|refine ⟨rfl,rfl,_,rfl,?_⟩|refine ⟨rfl,rfl⟩|fail)
  all_goals first|(simp [*,oneOrTuple];done)|(simp_all [oneOrTuple];done)|(simp_all [oneOrTuple,ltB_eq,leB_eq,eqB_eq,seB_eq];done)|(simp_all [oneOrTuple,ltB_eq,leB_eq,eqB_eq,seB_eq]<;>omega)
 ·repeat' (first|refine gx ?_|fail)
  exact ⟨_,rfl,by simp only [srcE,e1,h1,Int.toNat_natCast,h3,Bool.false_eq_true,if_false,if_true];rfl⟩
 have h4:=h3
 simp [withinB,leB_eq] at h4
 repeat' (first|refine gx ?_|fail)
 exact ⟨_,rfl,by simp only [srcE,e1,h1,Int.toNat_natCast,h3,Bool.false_eq_true,if_false];rfl⟩
def skt (x:Skt):AVal:= .agg (x.enc.map .d)
def rls (x:Rls):AVal:= .agg (x.enc.map .d)
def bkp (x:Bkp):AVal:= .agg (x.enc.map .d)
def sktB (x:Skt):Bool:= !withinB x.kind 0 2|| !withinB x.width 1 1024|| !withinB x.depth 1 8||(eqB x.kind 2&& !eqB x.depth 1)||ltB 1024 (x.width * x.depth)
def sktE (c:Cat)(x:Skt):Int:=if !eqB (srcE c x.source x.col).2 0 then (srcE c x.source x.col).2 else if sktB x then 1 else 0
set_option maxHeartbeats 8000000 in
theorem pf104 (c:Cat)(hs:Small2 c)(ho:srcOK c (Cat.ns c))(x:Skt):Pf A 104 [cat c,skt x] (.d (num (sktE c x))):=by
 have p1:=pf103 c hs ho x.source x.col
 refine Pf.run [cat c,skt x,.any,.any,.any,.any] rfl rfl rfl rfl ?_
 repeat' (first|refine cl (p1) ?_|refine gx ?_|fail)
 refine tb (!eqB (srcE c x.source x.col).2 0) (fun h1=> ?_) (fun h1=> ?_)
 ·repeat' (first|refine gx ?_|fail)
  exact ⟨_,rfl,by simp only [sktE,h1,if_true];rfl⟩
 repeat' (first|refine gx ?_|fail)
 cases hW:withinB x.width 1 1024 with
 |false =>
  first|refine Ex.testB (true) (Rn.text ?_) (fun h2=> ?_) (fun h2=> ?_)|refine Ex.testB (true) (Rn.draw ?_) (fun h2=> ?_) (fun h2=> ?_)
  ·repeat' (first|refine cl (pf95 _ _ _) ?_|refine gx ?_|refine fk (h1:=fun hw=> ?_) (h2:=fun hw=> ?_)|refine fpk (h1:=fun hw=> ?_) (h2:=fun hw=> ?_)|refine ⟨rfl,rfl,_,rfl,?_⟩|refine ⟨rfl,rfl⟩|fail)
   all_goals first|(simp [*,oneOrTuple,hW];done)|(simp_all [oneOrTuple,hW];done)|(simp_all [oneOrTuple,hW,ltB_eq,leB_eq,eqB_eq,seB_eq];done)|(simp_all [oneOrTuple,hW,ltB_eq,leB_eq,eqB_eq,seB_eq]<;>omega)
  ·repeat' (first|refine gx ?_|fail)
   exact ⟨_,rfl,by simp [sktE,h1,sktB,hW,oneOrTuple,num]⟩
  ·cases h2
 |true =>
 cases hD:withinB x.depth 1 8 with
 |false =>
  first|refine Ex.testB (true) (Rn.text ?_) (fun h2=> ?_) (fun h2=> ?_)|refine Ex.testB (true) (Rn.draw ?_) (fun h2=> ?_) (fun h2=> ?_)
  ·repeat' (first|refine cl (pf95 _ _ _) ?_|refine gx ?_|refine fk (h1:=fun hw=> ?_) (h2:=fun hw=> ?_)|refine fpk (h1:=fun hw=> ?_) (h2:=fun hw=> ?_)|refine ⟨rfl,rfl,_,rfl,?_⟩|refine ⟨rfl,rfl⟩|fail)
   all_goals first|(simp [*,oneOrTuple,hW,hD];done)|(simp_all [oneOrTuple,hW,hD];done)|(simp_all [oneOrTuple,hW,hD,ltB_eq,leB_eq,eqB_eq,seB_eq];done)|(simp_all [oneOrTuple,hW,hD,ltB_eq,leB_eq,eqB_eq,seB_eq]<;>omega)
  ·repeat' (first|refine gx ?_|fail)
   exact ⟨_,rfl,by simp [sktE,h1,sktB,hD,oneOrTuple,num]⟩
  ·cases h2
 |true =>
 have hm: -9223372036854775808≤x.width * x.depth∧x.width * x.depth<9223372036854775808:=by
  simp [withinB,leB_eq] at hW hD
  have m1:=Int.mul_le_mul hW.2 hD.2 (by omega) (by omega)
  have m2:=Int.mul_nonneg (a:=x.width) (b:=x.depth) (by omega) (by omega)
  omega
 first|refine Ex.testB (sktB x) (Rn.text ?_) (fun h2=> ?_) (fun h2=> ?_)|refine Ex.testB (sktB x) (Rn.draw ?_) (fun h2=> ?_) (fun h2=> ?_)
 ·repeat' (first|refine cl (pf95 _ _ _) ?_|refine mu (h0:=hm) ?_|refine gx ?_|refine fk (h1:=fun hw=> ?_) (h2:=fun hw=> ?_)|refine fpk (h1:=fun hw=> ?_) (h2:=fun hw=> ?_)|refine ⟨rfl,rfl,_,rfl,?_⟩|refine ⟨rfl,rfl⟩|fail)
  all_goals first|(simp [*,oneOrTuple,sktB,hW,hD];done)|(simp_all [oneOrTuple,sktB,hW,hD];done)|(simp_all [oneOrTuple,sktB,hW,hD,ltB_eq,leB_eq,eqB_eq,seB_eq];done)|(simp_all [oneOrTuple,sktB,hW,hD,ltB_eq,leB_eq,eqB_eq,seB_eq]<;>omega)
 ·repeat' (first|refine gx ?_|fail)
  exact ⟨_,rfl,by simp only [sktE,h1,h2,Bool.false_eq_true,if_false,if_true];rfl⟩
 ·repeat' (first|refine gx ?_|fail)
  exact ⟨_,rfl,by simp only [sktE,h1,h2,Bool.false_eq_true,if_false];rfl⟩
def rlsE (c:Cat)(x:Rls):Int :=
 if ltB (findC c x.source (Cat.ns c)) c.tabs.length then 7
 else if !eqB (nth c.views (findC c x.source (Cat.ns c) - c.tabs.length).toNat).kind 1|| !eqB (nth (nth c.views (findC c x.source (Cat.ns c) - c.tabs.length).toNat).aggs 0).func 0|| !withinB x.thr 1 1024 then 1 else 0
set_option maxHeartbeats 8000000 in
theorem pf105 (c:Cat)(hs:Small2 c)(hg:∀ k,k<c.views.length→(nth c.views k).kind≠1∨0<(nth c.views k).aggs.length)(x:Rls):Pf A 105 [cat c,rls x] (.d (num (rlsE c x))):=by
 have hns:=ns_few hs
 have hns2:Cat.ns c=c.tabs.length+c.views.length:=rfl
 have p1:=pf84 c x.source (Cat.ns c) hs.sm.few (by omega)
 have b1:=findC_bound c x.source (Cat.ns c)
 refine Pf.run [cat c,rls x,.any,.any,.any,.any,.any] rfl rfl rfl rfl ?_
 repeat' (first|refine cl (p1) ?_|refine gx ?_|fail)
 refine tb (ltB (findC c x.source (Cat.ns c)) c.tabs.length) (fun h1=> ?_) (fun h1=> ?_)
 ·repeat' (first|refine gx ?_|fail)
  exact ⟨_,rfl,by simp only [rlsE,h1,if_true];rfl⟩
 have h2:=ltB_f h1
 have h3:=hg (findC c x.source (Cat.ns c) - c.tabs.length).toNat (by omega)
 repeat' (first|refine gx ?_|fail)
 first|refine Ex.testB (!eqB (nth c.views (findC c x.source (Cat.ns c) - c.tabs.length).toNat).kind 1|| !eqB (nth (nth c.views (findC c x.source (Cat.ns c) - c.tabs.length).toNat).aggs 0).func 0|| !withinB x.thr 1 1024) (Rn.text ?_) (fun h4=> ?_) (fun h4=> ?_)|refine Ex.testB (!eqB (nth c.views (findC c x.source (Cat.ns c) - c.tabs.length).toNat).kind 1|| !eqB (nth (nth c.views (findC c x.source (Cat.ns c) - c.tabs.length).toNat).aggs 0).func 0|| !withinB x.thr 1 1024) (Rn.draw ?_) (fun h4=> ?_) (fun h4=> ?_)
 ·repeat' (first|refine cl (pf95 _ _ _) ?_|refine gx ?_|refine fk (h1:=fun hw=> ?_) (h2:=fun hw=> ?_)|refine fpk (h1:=fun hw=> ?_) (h2:=fun hw=> ?_)|refine ⟨rfl,rfl,_,rfl,?_⟩|refine ⟨rfl,rfl⟩|fail)
  all_goals first|(simp [*,oneOrTuple];done)|(simp_all [oneOrTuple];done)|(simp_all [oneOrTuple,ltB_eq,leB_eq,eqB_eq,seB_eq];done)|(simp_all [oneOrTuple,ltB_eq,leB_eq,eqB_eq,seB_eq]<;>omega)
 ·repeat' (first|refine gx ?_|fail)
  exact ⟨_,rfl,by simp only [rlsE,h1,h4,Bool.false_eq_true,if_false,if_true];rfl⟩
 ·repeat' (first|refine gx ?_|fail)
  exact ⟨_,rfl,by simp only [rlsE,h1,h4,Bool.false_eq_true,if_false];rfl⟩
def bkE (c:Cat):List Str→List Str→Int
 |_,[]=>0
 |seen,t::r=>if ltB (tabC c t c.tabs.length) 0 then 7 else if seen.any fun y=>seB y t then 4 else bkE c (seen++[t]) r
def bkpE (c:Cat)(x:Bkp):Int:=if eqB x.tables.length 0|| !withinB x.keep 1 1048576 then 1 else bkE c [] x.tables
set_option maxHeartbeats 8000000 in
theorem pf107 (c:Cat)(hf:c.few)(x:Bkp)(hx:x.tables.length≤1000):Pf A 107 [cat c,bkp x] (.d (num (bkpE c x))):=by
 have hn:c.tabs.length≤1000:=hf.1
 refine Pf.run [cat c,bkp x,.any,.any,.any,.any,.any] rfl rfl rfl rfl ?_
 repeat' (first|refine gx ?_|fail)
 first|refine Ex.testB (eqB x.tables.length 0|| !withinB x.keep 1 1048576) (Rn.text ?_) (fun h1=> ?_) (fun h1=> ?_)|refine Ex.testB (eqB x.tables.length 0|| !withinB x.keep 1 1048576) (Rn.draw ?_) (fun h1=> ?_) (fun h1=> ?_)
 ·repeat' (first|refine cl (pf95 _ _ _) ?_|refine gx ?_|refine fk (h1:=fun hw=> ?_) (h2:=fun hw=> ?_)|refine fpk (h1:=fun hw=> ?_) (h2:=fun hw=> ?_)|refine ⟨rfl,rfl,_,rfl,?_⟩|refine ⟨rfl,rfl⟩|fail)
  all_goals first|(simp [*,oneOrTuple];done)|(simp_all [oneOrTuple];done)|(simp_all [oneOrTuple,ltB_eq,leB_eq,eqB_eq,seB_eq];done)|(simp_all [oneOrTuple,ltB_eq,leB_eq,eqB_eq,seB_eq]<;>omega)
 ·repeat' (first|refine gx ?_|fail)
  exact ⟨_,rfl,by simp only [bkpE,h1,if_true];rfl⟩
 repeat' (first|refine gx ?_|fail)
 refine Ex.loopS (fun k T H=>∃ (i:Nat) (w0 w1 w4 w6:AVal),T=[w0,w1,.ptr 0 0,.ptr 1 0,w4,.d (num i),w6]∧H=[.cells (c.enc.map .d),.cells (x.enc.map .d)]∧i+k=x.tables.length∧bkpE c x=bkE c (x.tables.take i) (x.tables.drop i)) (by rintro _ _ _ ⟨_,_,_,_,_,_,rfl,_⟩;rfl) ?_ (k:=x.tables.length) ⟨0,_,_,_,_,rfl,rfl,by simp,by simp [bkpE,h1]⟩
 rintro k _ _ ⟨i,w0,w1,w4,w6,rfl,rfl,hk,hi⟩
 refine Ex.nT ?_
 refine Ex.seq ?_
 refine tb (ltB i x.tables.length) (fun h2=> ?_) (fun h2=> ?_)
 ·have h3:=ltB_t h2
  rw [drop_nth (by omega)] at hi
  have p1:=pf106 c (nth x.tables i) c.tabs.length hf (by omega)
  repeat' (first|refine gx ?_|fail)
  first|refine Ex.testB (ltB (tabC c (nth x.tables i) c.tabs.length) 0) (Rn.text ?_) (fun h4=> ?_) (fun h4=> ?_)|refine Ex.testB (ltB (tabC c (nth x.tables i) c.tabs.length) 0) (Rn.draw ?_) (fun h4=> ?_) (fun h4=> ?_)
  ·repeat' (first|refine cl (p1) ?_|refine gx ?_|refine fk (h1:=fun hw=> ?_) (h2:=fun hw=> ?_)|refine fpk (h1:=fun hw=> ?_) (h2:=fun hw=> ?_)|refine ⟨rfl,rfl,_,rfl,?_⟩|refine ⟨rfl,rfl⟩|fail)
   all_goals first|(simp [*,oneOrTuple];done)|(simp_all [oneOrTuple];done)|(simp_all [oneOrTuple,ltB_eq,leB_eq,eqB_eq,seB_eq];done)|(simp_all [oneOrTuple,ltB_eq,leB_eq,eqB_eq,seB_eq]<;>omega)
  ·repeat' (first|refine gx ?_|fail)
   exact ⟨_,rfl,by rw [hi];simp only [bkE,h4,if_true];rfl⟩
  repeat' (first|refine gx ?_|fail)
  refine Ex.loopS (fun k T H=>∃ (j:Nat) (w0 w1 w4:AVal),T=[w0,w1,.ptr 0 0,.ptr 1 0,w4,.d (num i),.d (num j)]∧H=[.cells (c.enc.map .d),.cells (x.enc.map .d)]∧j+k=i∧((x.tables.take i).any fun y=>seB y (nth x.tables i))=(((x.tables.take i).drop j).any fun y=>seB y (nth x.tables i))) (by rintro _ _ _ ⟨_,_,_,_,_,rfl,_⟩;rfl) ?_ (k:=i) ⟨0,_,_,_,rfl,rfl,by simp,by simp⟩
  rintro k2 _ _ ⟨j,w0,w1,w4,rfl,rfl,hk2,hj⟩
  refine Ex.nT ?_
  refine Ex.seq ?_
  refine tb (ltB j i) (fun h5=> ?_) (fun h5=> ?_)
  ·have h6:=ltB_t h5
   rw [take_drop_nth (by omega) (by omega)] at hj
   repeat' (first|refine gx ?_|refine Ex.condP ?_|refine Ex.condN ?_|refine Ex.cond rfl (fun ht=> ?_) (fun ht=> ?_)|refine Ex.test (Rn.text ?_)|refine Ex.test (Rn.draw ?_)|refine ⟨_,rfl,fun ht=> ?_,fun ht=> ?_⟩|refine ⟨_,rfl,?_⟩|fail)
   ·have g2:((x.tables.take i).any fun y=>seB y (nth x.tables i))=true:=by rw [hj];simp [ht]
    rw [hi]
    simp only [bkE,h4,g2,oneOrTuple,num,Bool.false_eq_true,if_true,if_false]
   ·exact ⟨k2 - 1,by omega,j+1,_,_,_,rfl,rfl,by omega,by rw [hj];simp [ht]⟩
  have h6:=ltB_f h5
  rw [List.drop_of_length_le (by simp;omega)] at hj
  have g2:((x.tables.take i).any fun y=>seB y (nth x.tables i))=false:=by rw [hj];rfl
  repeat' (first|refine gx ?_|fail)
  refine ⟨k - 1,by omega,i+1,_,_,_,_,rfl,rfl,by omega,?_⟩
  rw [hi,take_nth (by omega)]
  simp only [bkE,h4,g2,Bool.false_eq_true,if_false]
 ·have h3:=ltB_f h2
  rw [List.drop_of_length_le (by omega)] at hi
  repeat' (first|refine gx ?_|fail)
  exact ⟨_,rfl,by rw [hi];rfl⟩
end Go.Proofs.YtkmclibmmlgogaaGreat
namespace Go.Proofs.YtkmclibmmlgogaaGreat
open Go.Abs Go.Abs.S
attribute [local irreducible] Rx Ry Rn Ex Pf
def idxE (c:Cat)(x:Idx):Int:=if eqB (srcE c x.source x.col).2 0&& !eqB (srcE c x.source x.col).1 2 then 5 else (srcE c x.source x.col).2
def cchE (c:Cat)(x:Cch):Int:=if eqB (srcE c x.source x.col).2 0&& !withinB x.ttl 1 1048576 then 1 else (srcE c x.source x.col).2
def stmE (c:Cat)(x:Stm):Int:=if ltB (tabC c x.table c.tabs.length) 0 then 7 else 0
def restE (c:Cat)(n:Nat):Int :=
 if n<c.idxs.length then idxE c (nth c.idxs n)
 else if n - c.idxs.length<c.skts.length then sktE c (nth c.skts (n - c.idxs.length))
 else if n - c.idxs.length - c.skts.length<c.cchs.length then cchE c (nth c.cchs (n - c.idxs.length - c.skts.length))
 else if n - c.idxs.length - c.skts.length - c.cchs.length<c.rlss.length then rlsE c (nth c.rlss (n - c.idxs.length - c.skts.length - c.cchs.length))
 else if n - c.idxs.length - c.skts.length - c.cchs.length - c.rlss.length<c.stms.length then stmE c (nth c.stms (n - c.idxs.length - c.skts.length - c.cchs.length - c.rlss.length))
 else bkpE c (nth c.bkps (n - c.idxs.length - c.skts.length - c.cchs.length - c.rlss.length - c.stms.length))
set_option maxHeartbeats 16000000 in
theorem pf67 (c:Cat)(hs:Small2 c)(ho:srcOK c (Cat.ns c))(hg:∀ k,k<c.views.length→(nth c.views k).kind≠1∨0<(nth c.views k).aggs.length)(n:Nat)(hn:n<c.idxs.length+c.skts.length+c.cchs.length+c.rlss.length+c.stms.length+c.bkps.length) :
  Pf A 67 [cat c,.d (num n)] (.d (num (restE c n))):=by
 obtain ⟨f0,f1,f2,f3,f4,f5,f6,f7⟩:=hs.sm.few
 refine Pf.run [cat c,.d (num n),.any,.any,.any,.any,.any] rfl rfl rfl rfl ?_
 repeat' (first|refine gx ?_|fail)
 refine tb (ltB n c.idxs.length) (fun h1=> ?_) (fun h1=> ?_)
 ·have h1' :=ltB_t h1
  have p1:=pf103 c hs ho (nth c.idxs n).source (nth c.idxs n).col
  have e1:restE c n=idxE c (nth c.idxs n):=by unfold restE;rw [if_pos (by omega)]
  repeat' (first|refine cl (p1) ?_|refine gx ?_|fail)
  refine tb (eqB (srcE c (nth c.idxs n).source (nth c.idxs n).col).2 0&& !eqB (srcE c (nth c.idxs n).source (nth c.idxs n).col).1 2) (fun h2=> ?_) (fun h2=> ?_)
  ·repeat' (first|refine gx ?_|fail)
   exact ⟨_,rfl,by rw [e1];unfold idxE;rw [h2];rfl⟩
  ·repeat' (first|refine gx ?_|fail)
   exact ⟨_,rfl,by rw [e1];unfold idxE;rw [h2];rfl⟩
 have h1' :=ltB_f h1
 repeat' (first|refine gx ?_|fail)
 generalize hm1:n - c.idxs.length=m1
 have g1:(n:Int) - (c.idxs.length:Int)=(m1:Int):=by omega
 rw [g1]
 refine tb (ltB m1 c.skts.length) (fun h3=> ?_) (fun h3=> ?_)
 ·have h3' :=ltB_t h3
  have p1:=pf104 c hs ho (nth c.skts m1)
  have e1:restE c n=sktE c (nth c.skts m1):=by unfold restE;rw [if_neg (by omega),hm1,if_pos (by omega)]
  repeat' (first|refine cl (p1) ?_|refine gx ?_|fail)
  exact ⟨_,rfl,by rw [e1];rfl⟩
 have h3' :=ltB_f h3
 repeat' (first|refine gx ?_|fail)
 generalize hm2:m1 - c.skts.length=m2
 have g2:(m1:Int) - (c.skts.length:Int)=(m2:Int):=by omega
 rw [g2]
 refine tb (ltB m2 c.cchs.length) (fun h4=> ?_) (fun h4=> ?_)
 ·have h4' :=ltB_t h4
  have p1:=pf103 c hs ho (nth c.cchs m2).source (nth c.cchs m2).col
  have e1:restE c n=cchE c (nth c.cchs m2):=by unfold restE;rw [if_neg (by omega),hm1,if_neg (by omega),hm2,if_pos (by omega)]
  repeat' (first|refine cl (p1) ?_|refine gx ?_|fail)
  first|refine Ex.testB (eqB (srcE c (nth c.cchs m2).source (nth c.cchs m2).col).2 0&& !withinB (nth c.cchs m2).ttl 1 1048576) (Rn.text ?_) (fun h2=> ?_) (fun h2=> ?_)|refine Ex.testB (eqB (srcE c (nth c.cchs m2).source (nth c.cchs m2).col).2 0&& !withinB (nth c.cchs m2).ttl 1 1048576) (Rn.draw ?_) (fun h2=> ?_) (fun h2=> ?_)
  ·repeat' (first|refine cl (pf95 _ _ _) ?_|refine gx ?_|refine fk (h1:=fun hw=> ?_) (h2:=fun hw=> ?_)|refine fpk (h1:=fun hw=> ?_) (h2:=fun hw=> ?_)|refine ⟨rfl,rfl,_,rfl,?_⟩|refine ⟨rfl,rfl⟩|fail)
   all_goals first|(simp [*,oneOrTuple];done)|(simp_all [oneOrTuple];done)|(simp_all [oneOrTuple,ltB_eq,leB_eq,eqB_eq,seB_eq];done)|(simp_all [oneOrTuple,ltB_eq,leB_eq,eqB_eq,seB_eq]<;>omega)
  ·repeat' (first|refine gx ?_|fail)
   exact ⟨_,rfl,by rw [e1];unfold cchE;rw [h2];rfl⟩
  ·repeat' (first|refine gx ?_|fail)
   exact ⟨_,rfl,by rw [e1];unfold cchE;rw [h2];rfl⟩
 have h4' :=ltB_f h4
 repeat' (first|refine gx ?_|fail)
 generalize hm3:m2 - c.cchs.length=m3
 have g3:(m2:Int) - (c.cchs.length:Int)=(m3:Int):=by omega
 rw [g3]
 refine tb (ltB m3 c.rlss.length) (fun h5=> ?_) (fun h5=> ?_)
 ·have h5' :=ltB_t h5
  have p1:=pf105 c hs hg (nth c.rlss m3)
  have e1:restE c n=rlsE c (nth c.rlss m3):=by unfold restE;rw [if_neg (by omega),hm1,if_neg (by omega),hm2,if_neg (by omega),hm3,if_pos (by omega)]
  repeat' (first|refine cl (p1) ?_|refine gx ?_|fail)
  exact ⟨_,rfl,by rw [e1];rfl⟩
 have h5' :=ltB_f h5
 repeat' (first|refine gx ?_|fail)
 generalize hm4:m3 - c.rlss.length=m4
 have g4:(m3:Int) - (c.rlss.length:Int)=(m4:Int):=by omega
 rw [g4]
 refine tb (ltB m4 c.stms.length) (fun h6=> ?_) (fun h6=> ?_)
 ·have h6' :=ltB_t h6
  have p1:=pf106 c (nth c.stms m4).table c.tabs.length hs.sm.few (by omega)
  have e1:restE c n=stmE c (nth c.stms m4):=by unfold restE;rw [if_neg (by omega),hm1,if_neg (by omega),hm2,if_neg (by omega),hm3,if_neg (by omega),hm4,if_pos (by omega)]
  repeat' (first|refine gx ?_|fail)
  first|refine Ex.testB (ltB (tabC c (nth c.stms m4).table c.tabs.length) 0) (Rn.text ?_) (fun h2=> ?_) (fun h2=> ?_)|refine Ex.testB (ltB (tabC c (nth c.stms m4).table c.tabs.length) 0) (Rn.draw ?_) (fun h2=> ?_) (fun h2=> ?_)
  ·repeat' (first|refine cl (p1) ?_|refine gx ?_|refine fk (h1:=fun hw=> ?_) (h2:=fun hw=> ?_)|refine fpk (h1:=fun hw=> ?_) (h2:=fun hw=> ?_)|refine ⟨rfl,rfl,_,rfl,?_⟩|refine ⟨rfl,rfl⟩|fail)
   all_goals first|(simp [*,oneOrTuple];done)|(simp_all [oneOrTuple];done)|(simp_all [oneOrTuple,ltB_eq,leB_eq,eqB_eq,seB_eq];done)|(simp_all [oneOrTuple,ltB_eq,leB_eq,eqB_eq,seB_eq]<;>omega)
  ·repeat' (first|refine gx ?_|fail)
   exact ⟨_,rfl,by rw [e1];unfold stmE;rw [h2];rfl⟩
  ·repeat' (first|refine gx ?_|fail)
   exact ⟨_,rfl,by rw [e1];unfold stmE;rw [h2];rfl⟩
 have h6' :=ltB_f h6
 have hb:=hs.bk (m4 - c.stms.length) (by omega)
 have p1:=pf107 c hs.sm.few (nth c.bkps (m4 - c.stms.length)) hb
 have e1:restE c n=bkpE c (nth c.bkps (m4 - c.stms.length)):=by unfold restE;rw [if_neg (by omega),hm1,if_neg (by omega),hm2,if_neg (by omega),hm3,if_neg (by omega),hm4,if_neg (by omega)]
 repeat' (first|refine cl (p1) ?_|refine ixI (e:=(m4:Int) - (c.stms.length:Int)) (m4 - c.stms.length) (h2:= ?_)|refine gx ?_|fail)
 exact ⟨_,rfl,by rw [e1];rfl⟩
end Go.Proofs.YtkmclibmmlgogaaGreat
namespace Go.Proofs.YtkmclibmmlgogaaGreat
open Go.Abs Go.Abs.S
attribute [local irreducible] Rx Ry Rn Ex Pf
theorem Ex.thruN {A:Go.Abs.Prog}{l:Lim}{b:Nat}{c:ACode}{st:St}{Q:AExit→St→Prop}(P:St→Prop)(h1:Ex A l b c st (goOn (fun _ _=>False) P))(h2:∀ s,P s→Q .normal s):Ex A l b c st Q:=by
 refine h1.mono fun x s h=> ?_
 cases x with
 |normal=>exact h2 s h
 |exit i=>exact h.elim
 |ret=>exact h.elim
def many6 (a b c d e f:Int):Bool:=ltB 16 a||ltB 16 b||ltB 16 c||ltB 16 d||ltB 16 e||ltB 16 f
def tooMany (c:Cat):Bool:=ltB 8 c.tabs.length||ltB 12 c.views.length||many6 c.idxs.length c.skts.length c.cchs.length c.rlss.length c.stms.length c.bkps.length
def max2 (x y:Int):Int:=if y>x then y else x
theorem max2_lt (x y:Int):ltB 16 (max2 x y)=(ltB 16 x||ltB 16 y):=by
 unfold max2
 simp only [ltB_eq]
 split
 ·cases h:decide ((16:Int)<x) with
  |false=>simp
  |true=>simp at h ⊢;omega
 ·cases h:decide ((16:Int)<y) with
  |false=>simp
  |true=>simp at h ⊢;omega
theorem many_max (a b c d e f:Int):ltB 16 (max2 (max2 (max2 (max2 (max2 a b) c) d) e) f)=many6 a b c d e f:=by
 simp only [max2_lt,many6]
def errAt (c:Cat)(i:Nat):Int :=
 if !isNameB (nth c.names i) then 3 else if (c.names.take i).any fun y=>seB y (nth c.names i) then 4
 else if i<c.tabs.length then tabErr c i else if i<Cat.ns c then viewErr c i else restE c (i - Cat.ns c)
def chkFrom (c:Cat):Nat→Nat→Int×Int
 |0,_=>(0,0)
 |k+1,i=>if !eqB (errAt c i) 0 then (i,errAt c i) else chkFrom c k (i+1)
def checkC (c:Cat):Int×Int:=if tooMany c then (0,8) else chkFrom c c.names.length 0
theorem ne0 {x:Int}{h:x≠0}:eqB x 0=false:=by simp [eqB_eq,h]
theorem errAt_name {c:Cat}{m:Nat}(h:errAt c m=0):(!isNameB (nth c.names m))=false∧((c.names.take m).any fun y=>seB y (nth c.names m))=false:=by
 unfold errAt at h
 constructor
 ·cases h1:(!isNameB (nth c.names m)) with
  |false=>rfl
  |true=>rw [h1] at h;simp at h
 ·cases h1:(!isNameB (nth c.names m)) with
  |true=>rw [h1] at h;simp at h
  |false =>
   rw [h1] at h
   cases h2:((c.names.take m).any fun y=>seB y (nth c.names m)) with
   |false=>rfl
   |true=>rw [h2] at h;simp at h
theorem errAt_tab {c:Cat}{m:Nat}(h:errAt c m=0)(hm:m<c.tabs.length):tabErr c m=0:=by
 obtain ⟨h1,h2⟩:=errAt_name h
 unfold errAt at h
 rw [h1,h2,if_neg (by simp),if_neg (by simp),if_pos hm] at h
 exact h
theorem errAt_view {c:Cat}{m:Nat}(h:errAt c m=0)(hm:c.tabs.length≤m)(hm2:m<Cat.ns c):viewErr c m=0:=by
 obtain ⟨h1,h2⟩:=errAt_name h
 unfold errAt at h
 rw [h1,h2,if_neg (by simp),if_neg (by simp),if_neg (by omega),if_pos hm2] at h
 exact h
theorem tabErr_cols {c:Cat}{m:Nat}(h:tabErr c m=0):0<(nth c.tabs m).cols.length∧(nth c.tabs m).cols.length≤8:=by
 unfold tabErr at h
 split at h
 ·omega
 ·rename_i h1
  simp [withinB,leB_eq] at h1
  omega
theorem viewErr_src {c:Cat}{m:Nat}(h:viewErr c m=0):withinB (vOf c m).kind 0 2=true∧0≤findC c (vOf c m).left m∧(seB (vOf c m).right []=false→0≤findC c (vOf c m).right m)∧shapeB (vOf c m)=true:=by
 unfold viewErr at h
 split at h
 ·omega
 ·rename_i h0
  split at h
  ·omega
  ·rename_i h1
   split at h
   ·omega
   ·rename_i h2
    simp only [Bool.not_eq_true,Bool.or_eq_false_iff] at h1
    refine ⟨by simpa using h0,ltB_f h1.1,fun h3=> ?_,by simpa using h2⟩
    have:=h1.2
    rw [h3] at this
    exact ltB_f (by simpa using this)
theorem shape_agg {v:Vw}(h:shapeB v=true):v.kind≠1∨0<v.aggs.length:=by
 cases h1:eqB v.kind 1 with
 |false=>exact Or.inl (eqB_f h1)
 |true =>
  right
  have h2:=eqB_t h1
  unfold shapeB at h
  have h3:eqB v.kind 2=false:=by rw [h2];simp [eqB_eq]
  have h4:eqB v.kind 0=false:=by rw [h2];simp [eqB_eq]
  rw [h3,h4] at h
  simp only [Bool.false_eq_true,if_false,Bool.and_eq_true,Bool.not_eq_true',Bool.or_eq_false_iff] at h
  have:=eqB_f h.1.1
  omega
def okTo (c:Cat)(i:Nat):Prop:=∀ m,m<i→errAt c m=0
theorem okTo_src {c:Cat}{i:Nat}(h:okTo c i)(hi:i≤Cat.ns c):srcOK c i:=fun k h1 h2=>by
 have:=viewErr_src (errAt_view (h k h2) h1 (by omega))
 exact ⟨this.2.1,this.2.2.1⟩
theorem names_len2 (c:Cat):c.names.length=Cat.ns c+(c.idxs.length+c.skts.length+c.cchs.length+c.rlss.length+c.stms.length+c.bkps.length):=by simp [Cat.names,Cat.ns];omega
set_option maxHeartbeats 16000000 in
theorem pf27 (c:Cat)(hs:Small2 c):Pf A 27 [cat c] (pair (checkC c)):=by
 have hnl:=names_len2 c
 have hns:Cat.ns c=c.tabs.length+c.views.length:=rfl
 obtain ⟨f0,f1,f2,f3,f4,f5,f6,f7⟩:=id hs.sm.few
 have hmm:=many_max c.idxs.length c.skts.length c.cchs.length c.rlss.length c.stms.length c.bkps.length
 refine Pf.run [cat c,.any,.any,.any,.any,.any,.any,.any] rfl rfl rfl rfl ?_
 repeat' (first|refine gx ?_|fail)
 first|refine Ex.testB (tooMany c) (Rn.text ?_) (fun h1=> ?_) (fun h1=> ?_)|refine Ex.testB (tooMany c) (Rn.draw ?_) (fun h1=> ?_) (fun h1=> ?_)
 ·repeat' (first|refine mm (d:= .int .i64 (max2 (max2 (max2 (max2 (max2 c.idxs.length c.skts.length) c.cchs.length) c.rlss.length) c.stms.length) c.bkps.length)) ?_|refine gx ?_|refine fk (h1:=fun hw=> ?_) (h2:=fun hw=> ?_)|refine fpk (h1:=fun hw=> ?_) (h2:=fun hw=> ?_)|refine ⟨rfl,rfl,_,rfl,?_⟩|refine ⟨rfl,rfl⟩|fail)
  all_goals first|(simp [*,oneOrTuple,tooMany,hmm];done)|(simp_all [oneOrTuple,tooMany,hmm];done)|(simp_all [oneOrTuple,tooMany,hmm,ltB_eq,leB_eq,eqB_eq,seB_eq];done)|(simp_all [oneOrTuple,tooMany,hmm,ltB_eq,leB_eq,eqB_eq,seB_eq]<;>omega)
 ·repeat' (first|refine gx ?_|fail)
  exact ⟨_,rfl,by unfold checkC;rw [h1];rfl⟩
 repeat' (first|refine cl (pf63 c hs.sm.few) ?_|refine gx ?_|fail)
 refine Ex.loopS (fun k T H=>∃ (i:Nat) (w0 w2 w3 w6 w7:AVal),T=[w0,.ptr 0 0,w2,w3,.d (encL encS c.names),.d (num i),w6,w7]∧H=[.cells (c.enc.map .d)]∧i+k=c.names.length∧okTo c i∧checkC c=chkFrom c k i) (by rintro _ _ _ ⟨_,_,_,_,_,_,_,rfl,_⟩;rfl) ?_ (k:=c.names.length) ⟨0,_,_,_,_,_,rfl,rfl,by simp,fun m h=>absurd h (by omega),by unfold checkC;rw [h1];rfl⟩
 rintro k _ _ ⟨i,w0,w2,w3,w6,w7,rfl,rfl,hk,hok,hi⟩
 refine Ex.nT ?_
 refine Ex.seq ?_
 refine tb (ltB i c.names.length) (fun h2=> ?_) (fun h2=> ?_)
 ·have h3:=ltB_t h2
  obtain ⟨k,rfl⟩:∃ k',k=k' +1:=⟨k - 1,by omega⟩
  rw [chkFrom] at hi
  repeat' (first|refine gx ?_|fail)
  first|refine Ex.testB (!isNameB (nth c.names i)) (Rn.text ?_) (fun h4=> ?_) (fun h4=> ?_)|refine Ex.testB (!isNameB (nth c.names i)) (Rn.draw ?_) (fun h4=> ?_) (fun h4=> ?_)
  ·repeat' (first|refine cl (pf64 _) ?_|refine gx ?_|refine fk (h1:=fun hw=> ?_) (h2:=fun hw=> ?_)|refine fpk (h1:=fun hw=> ?_) (h2:=fun hw=> ?_)|refine ⟨rfl,rfl,_,rfl,?_⟩|refine ⟨rfl,rfl⟩|fail)
   all_goals first|(simp [*,oneOrTuple];done)|(simp_all [oneOrTuple];done)|(simp_all [oneOrTuple,ltB_eq,leB_eq,eqB_eq,seB_eq];done)|(simp_all [oneOrTuple,ltB_eq,leB_eq,eqB_eq,seB_eq]<;>omega)
  ·repeat' (first|refine gx ?_|fail)
   have e1:errAt c i=3:=by unfold errAt;rw [h4];rfl
   exact ⟨_,rfl,by rw [hi,e1];simp [eqB_eq,pair,oneOrTuple,AVal.asD,num]⟩
  repeat' (first|refine gx ?_|fail)
  refine Ex.loopS (fun k T H=>∃ (j:Nat) (w0 w2 w3 w7:AVal),T=[w0,.ptr 0 0,w2,w3,.d (encL encS c.names),.d (num i),.d (num j),w7]∧H=[.cells (c.enc.map .d)]∧j+k=i∧((c.names.take i).any fun y=>seB y (nth c.names i))=(((c.names.take i).drop j).any fun y=>seB y (nth c.names i))) (by rintro _ _ _ ⟨_,_,_,_,_,_,rfl,_⟩;rfl) ?_ (k:=i) ⟨0,_,_,_,_,rfl,rfl,by simp,by simp⟩
  rintro k2 _ _ ⟨j,w0,w2,w3,w7,rfl,rfl,hk2,hj⟩
  refine Ex.nT ?_
  refine Ex.seq ?_
  refine tb (ltB j i) (fun h5=> ?_) (fun h5=> ?_)
  ·have h6:=ltB_t h5
   rw [take_drop_nth (by omega) (by omega)] at hj
   repeat' (first|refine gx ?_|refine Ex.condP ?_|refine Ex.condN ?_|refine Ex.cond rfl (fun ht=> ?_) (fun ht=> ?_)|refine Ex.test (Rn.text ?_)|refine Ex.test (Rn.draw ?_)|refine ⟨_,rfl,fun ht=> ?_,fun ht=> ?_⟩|refine ⟨_,rfl,?_⟩|fail)
   ·have g2:((c.names.take i).any fun y=>seB y (nth c.names i))=true:=by rw [hj];simp [ht]
    have e1:errAt c i=4:=by unfold errAt;rw [h4,g2];rfl
    rw [hi,e1]
    simp [eqB_eq,pair,oneOrTuple,AVal.asD,num]
   ·exact ⟨k2 - 1,by omega,j+1,_,_,_,_,rfl,rfl,by omega,by rw [hj];simp [ht]⟩
  have h6:=ltB_f h5
  rw [List.drop_of_length_le (by simp;omega)] at hj
  have g2:((c.names.take i).any fun y=>seB y (nth c.names i))=false:=by rw [hj];rfl
  clear hj hk2 h5 h6
  repeat' (first|refine gx ?_|fail)
  refine Ex.thruN (fun s=>∃ (w0 w2 w3 w6:AVal),s=⟨[w0,.ptr 0 0,w2,w3,.d (encL encS c.names),.d (num i),w6,.d (num (errAt c i))],[.cells (c.enc.map .d)]⟩) ?_ ?_
  ·skip
   refine tb (ltB i c.tabs.length) (fun h5=> ?_) (fun h5=> ?_)
   ·have h6:=ltB_t h5
    have p1:=pf65 c i hs.sm (by omega) (fun m hm=>(tabErr_cols (errAt_tab (hok m hm) (by omega))).1)
    have e1:errAt c i=tabErr c i:=by unfold errAt;rw [h4,g2,if_neg (by simp),if_neg (by simp),if_pos (by omega)]
    rw [e1]
    repeat' (first|refine cl (p1) ?_|refine gx ?_|fail)
    exact ⟨_,_,_,_,rfl⟩
   have h6:=ltB_f h5
   first|refine Ex.testB (ltB i (Cat.ns c)) (Rn.text ?_) (fun h7=> ?_) (fun h7=> ?_)|refine Ex.testB (ltB i (Cat.ns c)) (Rn.draw ?_) (fun h7=> ?_) (fun h7=> ?_)
   ·repeat' (first|refine cl (hns) ?_|refine gx ?_|refine fk (h1:=fun hw=> ?_) (h2:=fun hw=> ?_)|refine fpk (h1:=fun hw=> ?_) (h2:=fun hw=> ?_)|refine ⟨rfl,rfl,_,rfl,?_⟩|refine ⟨rfl,rfl⟩|fail)
    all_goals first|(simp [*,oneOrTuple];done)|(simp_all [oneOrTuple];done)|(simp_all [oneOrTuple,ltB_eq,leB_eq,eqB_eq,seB_eq];done)|(simp_all [oneOrTuple,ltB_eq,leB_eq,eqB_eq,seB_eq]<;>omega)
   ·have h8:=ltB_t h7
    have p1:=pf66 c hs i (by omega) (by omega) (okTo_src hok (by omega))
    have e1:errAt c i=viewErr c i:=by unfold errAt;rw [h4,g2,if_neg (by simp),if_neg (by simp),if_neg (by omega),if_pos (by omega)]
    rw [e1]
    repeat' (first|refine cl (p1) ?_|refine gx ?_|fail)
    exact ⟨_,_,_,_,rfl⟩
   ·have h8:=ltB_f h7
    have p1:=pf67 c hs (okTo_src (fun m hm=>hok m (by omega)) (Nat.le_refl _)) (fun m hm=>by
     have h9:=viewErr_src (errAt_view (hok (m+c.tabs.length) (by omega)) (by omega) (by omega))
     have h10:vOf c (m+c.tabs.length)=nth c.views m:=by unfold vOf;rw [Nat.add_sub_cancel]
     rw [h10] at h9
     exact shape_agg h9.2.2.2) (i - Cat.ns c) (by omega)
    have e1:errAt c i=restE c (i - Cat.ns c):=by unfold errAt;rw [h4,g2,if_neg (by simp),if_neg (by simp),if_neg (by omega),if_neg (by omega)]
    rw [e1]
    repeat' (first|refine gx ?_|fail)
    refine cl p1 ?_ (ha:=by rw [show ((i - Cat.ns c:Nat):Int)=(i:Int) - (c.tabs.length:Int) - (c.views.length:Int) by omega];rfl)
    repeat' (first|refine gx ?_|fail)
    exact ⟨_,_,_,_,rfl⟩
  rintro _ ⟨w0,w2,w3,w6,rfl⟩
  repeat' (first|refine gx ?_|fail)
  refine tb (!eqB (errAt c i) 0) (fun h5=> ?_) (fun h5=> ?_)
  ·repeat' (first|refine gx ?_|fail)
   exact ⟨_,rfl,by rw [hi,h5];rfl⟩
  ·repeat' (first|refine gx ?_|fail)
   refine ⟨k,by omega,i+1,_,_,_,_,_,rfl,rfl,by omega,fun m hm=> ?_,by rw [hi,h5];rfl⟩
   rcases Nat.lt_or_ge m i with h6|h6
   ·exact hok m h6
   ·obtain rfl:m=i:=by omega
    exact eqB_t (by simpa using h5)
 ·have h3:=ltB_f h2
  obtain rfl:k=0:=by omega
  repeat' (first|refine gx ?_|fail)
  exact ⟨_,rfl,by rw [hi];rfl⟩
end Go.Proofs.YtkmclibmmlgogaaGreat
