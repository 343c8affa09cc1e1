/- The law's checks, and the closed check of its layer. (made short by a program) -/
import Derived.Test.YtkmclibmmlgogaaGreatX4
import Derived.Test.YtkmclibmmlgogaaGreatX5
set_option linter.unusedVariables false
set_option linter.unusedSimpArgs false
namespace Go.Proofs.YtkmclibmmlgogaaGreat
open Go.z7 Go.z7.S
attribute [local irreducible] Rx Ry Rn Ex Pf
theorem KR:call A 200 11 [] [] cU=some (.d (.bool true),[]):=by kernel_rfl
theorem aA6:Pf A 11 [] (.d (.bool true)):=Pf.Rt KR
end Go.Proofs.YtkmclibmmlgogaaGreat

