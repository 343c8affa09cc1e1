/-
  The closed check of the layer: awake, by the kernel, cut at the calls that check the catalogue.
  (Put together by a small program out of several texts; blanks left out to keep the folder small.)
-/
import Derived.Test.YtjnkccpijofgiaaGreatAbs
import Derived.Test.YtjnkccpijofgiaaGreatB6
set_option linter.unusedVariables false
set_option linter.unusedSimpArgs false
namespace Go.Proofs.YtjnkccpijofgiaaGreat
open Go.Abs
def cW:AVal:= .agg [.d (.slice 1 [.str [116],.slice 1 [.str [97],.int .i64 1,.str [],.str [],.slice 0 [],.int .i64 0,.int .i64 0],.int .i64 0,.int .i64 0]),.d (.slice 1 [.str [118],.int .i64 0,.str [116],.str [],.slice 0 [],.slice 0 [],.slice 1 [.str [97],.slice 1 [.int .i64 2,.int .i64 0,.int .i64 0,.str [],.int .i64 0]],.bool false,.slice 0 []]),.d (.slice 0 []),.d (.slice 0 []),.d (.slice 0 []),.d (.slice 0 []),.d (.slice 1 [.str [115],.str [116]]),.d (.slice 0 [])]
theorem w0:call A 300 55 [cW] [] lim0=some (.d (.bool true),[]):=by kernel_rfl
theorem w1:call A 300 103 [cW,.d (.int .i64 0)] [] lim0=some (.d (.slice 1 [.int .i64 1]),[]):=by kernel_rfl
theorem w2:call A 300 103 [cW,.d (.int .i64 1)] [] lim0=some (.d (.slice 1 [.int .i64 1]),[]):=by kernel_rfl
theorem w3:call A 300 67 [cW,.d (.str [116])] [] lim0=some (.d (.int .i64 0),[]):=by kernel_rfl
theorem w4:call A 300 67 [cW,.d (.str [118])] [] lim0=some (.d (.int .i64 1),[]):=by kernel_rfl
def esW:List Ent:=[⟨55,[cW],.d (.bool true)⟩,⟨103,[cW,.d (.int .i64 0)],.d (.slice 1 [.int .i64 1])⟩,⟨103,[cW,.d (.int .i64 1)],.d (.slice 1 [.int .i64 1])⟩,⟨67,[cW,.d (.str [116])],.d (.int .i64 0)⟩,⟨67,[cW,.d (.str [118])],.d (.int .i64 1)⟩]
theorem esW_ok:∀ e,e ∈ esW→call A 300 e.f e.args [] lim0=some (e.res,[]):=by
 intro e he
 simp only [esW,List.mem_cons,List.not_mem_nil,or_false] at he
 rcases he with rfl|rfl|rfl|rfl|rfl
 ·exact w0
 ·exact w1
 ·exact w2
 ·exact w3
 ·exact w4
theorem w7:call (memo A esW) 300 7 [] [] lim0=some (.d (.bool true),[]):=by kernel_rfl
theorem pf7:Pf A 7 [] (.d (.bool true)):=Pf.unmemo esW_ok w7 (by omega)
end Go.Proofs.YtjnkccpijofgiaaGreat
