/- The law's checks, and the closed check of its layer. (made short by a program) -/
import Derived.Test.YtkmclibmmlgogaaGreatX4
import Derived.Test.YtkmclibmmlgogaaGreatX5
set_option linter.unusedVariables false
set_option linter.unusedSimpArgs false
namespace Go.Proofs.YtkmclibmmlgogaaGreat
open Go.y3 Go.y3.S
attribute [local irreducible] Rx Ry Rn Ex Pf
theorem Mw:call A 200 11 [] [] cB=some (.d (.bool true),[]):=by kernel_rfl
theorem aj9:Pf A 11 [] (.d (.bool true)):=Pf.TG Mw
end Go.Proofs.YtkmclibmmlgogaaGreat

