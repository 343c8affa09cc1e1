/- The law's checks, and the closed check of its layer. (made short by a program) -/
import Derived.Test.YtkmclibmmlgogaaGreatX4
import Derived.Test.YtkmclibmmlgogaaGreatX5
set_option linter.unusedVariables false
set_option linter.unusedSimpArgs false
namespace Go.Proofs.YtkmclibmmlgogaaGreat
open Go.u7 Go.u7.S
attribute [local irreducible] Rx Ry Rn Ex Pf
theorem Kh:call A 200 11 [] [] bK=some (.d (.bool true),[]):=by kernel_rfl
theorem Yq:Pf A 11 [] (.d (.bool true)):=Pf.QC Kh
end Go.Proofs.YtkmclibmmlgogaaGreat

