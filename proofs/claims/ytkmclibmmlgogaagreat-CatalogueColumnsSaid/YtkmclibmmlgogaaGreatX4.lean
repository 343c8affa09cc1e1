/- Texts D59 D62 (made short by a program) -/
import Derived.Test.YtkmclibmmlgogaaGreatX3
set_option linter.unusedVariables false
set_option linter.unusedSimpArgs false
namespace Go.Proofs.YtkmclibmmlgogaaGreat
open Go.u7 Go.u7.S
attribute [local irreducible] Rx Ry Rn Ex Pf
theorem Me (a:Int):o8 a a=true:=by simp [j5]
section
variable (c:m9) (hs:E8 c) (m:Nat) (s:C7) (h:dA c m=true)
include hs h
end
end Go.Proofs.YtkmclibmmlgogaaGreat

