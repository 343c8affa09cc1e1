/-
  The law's checks, and the closed check of its layer.
  (Put together by a small program out of several texts; blanks left out to keep the folder small.)
-/
import Derived.Test.YtkmclibmmlgogaaGreatX4
import Derived.Test.YtkmclibmmlgogaaGreatX5
import Derived.Test.YtkmclibmmlgogaaGreatB5
import Derived.KernelRfl
import Derived.Test.YtkmclibmmlgogaaGreatB6
set_option linter.unusedVariables false
set_option linter.unusedSimpArgs false
namespace Go.Proofs.YtkmclibmmlgogaaGreat
open Go.Abs Go.Abs.S
attribute [local irreducible] Rx Ry Rn Ex Pf
theorem awake_run:call A 200 11 [] [] lim0=some (.d (.bool true),[]):=by kernel_rfl
theorem pf11:Pf A 11 [] (.d (.bool true)):=Pf.of_call awake_run
theorem pf9 (c:Cat)(hs:Small2 c):Pf A 9 [cat c] (.d (.bool true)):=by
 have p26:=pf26 c hs
 have p27:=pf27 c hs
 have p10:=pf10 c hs
 obtain ⟨i,hi⟩:∃ x,(checkC c).1=x:=⟨_,rfl⟩
 obtain ⟨e,he⟩:∃ x,(checkC c).2=x:=⟨_,rfl⟩
 have hv:validC c=eqB e 0:=by unfold validC;rw [he]
 unfold pair at p26 p27
 rw [hi,he] at p26 p27
 rw [hv] at p10
 refine Pf.run [cat c,.any,.any,.any,.any,.any,.any] rfl rfl rfl rfl ?_
 repeat' (first|refine cl (p26) ?_|refine cl (p27) ?_|refine cl (p10) ?_|refine gx ?_|refine fk (h1:=fun hw=> ?_) (h2:=fun hw=> ?_)|refine fpk (h1:=fun hw=> ?_) (h2:=fun hw=> ?_)|refine Ex.condP ?_|refine Ex.condN ?_|refine Ex.cond rfl (fun ht=> ?_) (fun ht=> ?_)|refine Ex.test (Rn.text ?_)|refine Ex.test (Rn.draw ?_)|refine ⟨_,rfl,fun ht=> ?_,fun ht=> ?_⟩|refine ⟨_,rfl,?_⟩|fail)
 all_goals simp_all [oneOrTuple,eqB_self]
theorem pf6 (c:Cat)(n:Int):Pf A 6 [cat c,.d (num n)] (.d (.bool true)):=by
 have p21:=pf21 c
 have p11:=pf11
 refine Pf.run [cat c,.d (num n),.any,.any] rfl rfl rfl rfl ?_
 repeat' (first|refine gx ?_|fail)
 first|refine Ex.testB (!smallB c) (Rn.text ?_) (fun h0=> ?_) (fun h0=> ?_)|refine Ex.testB (!smallB c) (Rn.draw ?_) (fun h0=> ?_) (fun h0=> ?_)
 ·repeat' (first|refine cl (p21) ?_|refine gx ?_|refine fk (h1:=fun hw=> ?_) (h2:=fun hw=> ?_)|refine fpk (h1:=fun hw=> ?_) (h2:=fun hw=> ?_)|refine ⟨rfl,rfl,_,rfl,?_⟩|refine ⟨rfl,rfl⟩|fail)
  all_goals first|(simp [*,oneOrTuple];done)|(simp_all [oneOrTuple];done)|(simp_all [oneOrTuple,ltB_eq,leB_eq,eqB_eq,seB_eq];done)|(simp_all [oneOrTuple,ltB_eq,leB_eq,eqB_eq,seB_eq]<;>omega)
 ·repeat' (first|refine cl (p11) ?_|refine gx ?_|fail)
  exact ⟨_,rfl,rfl⟩
 have hs:Small2 c:=small_of (by simpa using h0)
 have p9:=pf9 c hs
 have p22:=pf22 c hs n []
 have p22' :=pf22 c hs 0 [116,48]
 repeat' (first|refine cl (p9) ?_|refine cl (p22) ?_|refine cl (p22') ?_|refine cl (p11) ?_|refine gx ?_|refine fk (h1:=fun hw=> ?_) (h2:=fun hw=> ?_)|refine fpk (h1:=fun hw=> ?_) (h2:=fun hw=> ?_)|refine Ex.condP ?_|refine Ex.condN ?_|refine Ex.cond rfl (fun ht=> ?_) (fun ht=> ?_)|refine Ex.test (Rn.text ?_)|refine Ex.test (Rn.draw ?_)|refine ⟨_,rfl,fun ht=> ?_,fun ht=> ?_⟩|refine ⟨_,rfl,?_⟩|fail)
 all_goals simp_all [oneOrTuple]
end Go.Proofs.YtkmclibmmlgogaaGreat
