/-
  The law PlanReady in the machine.; The law PlanOrders in the machine.
  (Put together by a small program out of several texts; blanks left out to keep the folder small.)
-/
import Derived.Test.YtjnkccpijofgiaaGreatH1
import Derived.Test.YtjnkccpijofgiaaGreatH2
import Derived.Test.YtjnkccpijofgiaaGreatB6
set_option linter.unusedVariables false
set_option linter.unusedSimpArgs false
namespace Go.Proofs.YtjnkccpijofgiaaGreat
open Go.Abs Go.Abs.S
attribute [local irreducible] Rx Ry Rn Ex Pf
abbrev plD (p:Pln):Pl:=⟨v3s p.vs,v2s p.ss,p.st⟩
theorem few_of {p:Pln}(h:fewB p=true):Few1 (plD p):=by
 simp only [fewB,Bool.and_eq_true,List.all_eq_true,leB_eq,decide_eq_true_eq] at h
 refine ⟨by simp only;omega,fun i hi=> ?_⟩
 have:=h.1 _ (nth_mem hi)
 simp [ltB_eq] at this
 simp only
 omega
theorem pf4 (p:Pln)(ds:List Int)(day:Int)(hp:p.ok)(hd:ds.length≤maxLen)(_:∀ a ∈ ds,okI a)(_:okI day):Pf A 4 [planA p,.d (ints ds),.d (num day)] (.d (.bool true)):=by
 refine Pf.run [planA p,.d (ints ds),.d (num day),.any,.any] rfl rfl rfl rfl ?_
 have p1:=up (pf6 p hp.fits)
 refine gr ?_
 refine tB (!fewB p||ltB 30 ds.length) ?_ (fun h1=> ?_) (fun h1=> ?_)
 ·repeat' (first|refine cl (p1) ?_|refine gx ?_|refine fk (h1:=fun hw=> ?_) (h2:=fun hw=> ?_)|refine fpk (h1:=fun hw=> ?_) (h2:=fun hw=> ?_)|refine ⟨rfl,rfl,_,rfl,?_⟩|refine ⟨rfl,rfl⟩|fail)
  all_goals exact cc
 ·repeat' (first|refine cl (pf7) ?_|refine gx ?_|fail)
  exact ⟨_,rfl,rfl⟩
 ·simp only [Bool.or_eq_false_iff,Bool.not_eq_false'] at h1
  obtain ⟨g1,g2⟩:=h1
  have hf:=few_of g1
  have p2:=up (pf13 (plD p) ds hf hd)
  have p3:=up (pf14 (plD p) ds hf hd)
  have p4:=up (pf15 (plD p) ds day hf hd)
  have p5:=up (pf16 (plD p) ds day hf hd)
  have l1:=filt_len (openS p.st ds) p.st.length
  have l2:=filt_len (lateB (plD p) ds day) p.st.length
  have hs:=hf.st
  simp only at hs
  have p6:=up (pf12 (filt (openS p.st ds) p.st.length) (filt (openS p.st ds) p.st.length) (by omega))
  have p7:=up (pf12 (filt (lateB (plD p) ds day) p.st.length) (filt (lateB (plD p) ds day) p.st.length) (by omega))
  rw [sameB_refl (by intro a;simp [eqB_eq])] at p6 p7
  repeat' (first|refine cl (p2) ?_|refine cl (p3) ?_|refine cl (p4) ?_|refine cl (p5) ?_|refine cl (p6) ?_|refine cl (p7) ?_|refine cl (pf7) ?_|refine gx ?_|refine fk (h1:=fun hw=> ?_) (h2:=fun hw=> ?_)|refine fpk (h1:=fun hw=> ?_) (h2:=fun hw=> ?_)|refine Ex.condP ?_|refine Ex.condN ?_|refine Ex.cond rfl (fun ht=> ?_) (fun ht=> ?_)|refine Ex.test (Rn.text ?_)|refine Ex.test (Rn.draw ?_)|refine ⟨_,rfl,fun ht=> ?_,fun ht=> ?_⟩|refine ⟨_,rfl,?_⟩|fail)
  all_goals simp_all [oneOrTuple]
end Go.Proofs.YtjnkccpijofgiaaGreat
namespace Go.Proofs.YtjnkccpijofgiaaGreat
open Go.Abs Go.Abs.S
attribute [local irreducible] Rx Ry Rn Ex Pf
theorem iOf_num:∀ l:List Int,iOf (l.map num)=some l
 |[]=>rfl
 |a::l=>by simp only [List.map_cons,num,iOf,iOf_num l]
theorem stpsOf_flat:∀ st:List PStep,stpsOf (st.flatMap encPS)=some st
 |[]=>rfl
 |s::r=>by
  have h:=stpsOf_flat r
  have e:encPS s++r.flatMap encPS= .int .i64 s.m:: .int .i64 s.k:: .int .i64 s.i:: .slice s.af.length (s.af.map num):: .int .i64 s.dl::r.flatMap encPS:=by
   simp only [encPS,ints_eq]
   rfl
  rw [List.flatMap_cons,e]
  simp only [stpsOf,List.length_map,if_true,iOf_num,h]
theorem pf8 (p:Pl)(hp:Few1 p):Pf A 8 [planD p] (.tuple [.d (ints (heightsR p.st).2),.d (num (heightsR p.st).1)]):=by
 refine Pf.of_call (n:=1) ?_
 have hr:rowOf 5 [] (.d (stps p.st))=some (p.st.length,p.st.flatMap encPS):=by
  simp only [rowOf,stps,encL]
  rw [if_pos (flat_len _)]
 have hf:fewS p.st=true:=by
  simp only [fewS,Bool.and_eq_true,List.all_eq_true]
  refine ⟨Nat.ble_eq_true_of_le hp.st,fun s hs=> ?_⟩
  obtain ⟨i,hi,rfl⟩:=List.mem_iff_getElem.1 hs
  have:=hp.af i hi
  rw [nth_eq hi] at this
  exact Nat.ble_eq_true_of_le this
 show pHeights [planD p] [] lim0=_
 simp only [pHeights,planD,hr,stpsOf_flat,hf,if_true]
theorem ordR_len (st:List PStep):(ordR st).2.length≤st.length:=by
 by_cases h:(ordR st).1=0
 ·have:=(ordR_ok h).len
  omega
 ·unfold ordR at h ⊢
  split
  ·rename_i hn
   rw [if_pos hn] at h
   cases hq:ordTo st st.length with
   |none=>simp
   |some o=>rw [hq] at h;exact absurd rfl h
  ·simp
theorem heightsR_len (st:List PStep):(heightsR st).2.length≤st.length:=by
 unfold heightsR
 split
 ·simp only [heightsI]
  rw [bumpL_len,List.length_replicate]
  exact Nat.le_refl _
 ·simp
theorem pf3 (p:Pln)(hp:p.ok):Pf A 3 [planA p] (.d (.bool true)):=by
 refine Pf.run [planA p,.any,.any,.any,.any,.any,.any,.any,.any,.any,.any] rfl rfl rfl rfl ?_
 have p1:=up (pf6 p hp.fits)
 refine gr ?_
 refine tB (!fewB p) ?_ (fun h1=> ?_) (fun h1=> ?_)
 ·repeat' (first|refine cl (p1) ?_|refine gx ?_|refine fk (h1:=fun hw=> ?_) (h2:=fun hw=> ?_)|refine fpk (h1:=fun hw=> ?_) (h2:=fun hw=> ?_)|refine ⟨rfl,rfl,_,rfl,?_⟩|refine ⟨rfl,rfl⟩|fail)
  all_goals exact cc
 ·repeat' (first|refine cl (pf7) ?_|refine gx ?_|fail)
  exact ⟨_,rfl,rfl⟩
 ·simp only [Bool.not_eq_false'] at h1
  have hf:=few_of h1
  have p2:=pf8 (plD p) hf
  have p3:=up (pf9 (plD p) hf)
  have p4:=up (pf10 (plD p) hf)
  have p5:=up (pf11 (plD p) hf)
  have hs:=hf.st
  have l1:=ordR_len p.st
  have l2:=heightsR_len p.st
  simp only at hs p2 p3 p4 p5
  have p6:=up (pf12 (heightsR p.st).2 (heightsR p.st).2 (by omega))
  have p7:=up (pf12 (ordR p.st).2 (ordR p.st).2 (by omega))
  rw [sameB_refl (by intro a;simp [eqB_eq])] at p6 p7
  repeat' (first|refine cl (p2) ?_|refine cl (p3) ?_|refine cl (p4) ?_|refine cl (p5) ?_|refine gx ?_|fail)
  repeat' (first|refine cl (p6) ?_|refine cl (p7) ?_|refine cl (pf7) ?_|refine gx ?_|refine fk (h1:=fun hw=> ?_) (h2:=fun hw=> ?_)|refine fpk (h1:=fun hw=> ?_) (h2:=fun hw=> ?_)|refine Ex.condP ?_|refine Ex.condN ?_|refine Ex.cond rfl (fun ht=> ?_) (fun ht=> ?_)|refine Ex.test (Rn.text ?_)|refine Ex.test (Rn.draw ?_)|refine ⟨_,rfl,fun ht=> ?_,fun ht=> ?_⟩|refine ⟨_,rfl,?_⟩|fail)
  all_goals simp_all [oneOrTuple,eqB_eq]
end Go.Proofs.YtjnkccpijofgiaaGreat
