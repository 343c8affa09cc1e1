/- Spoil, checked. (made short by a program) -/
import Derived.Test.YtkmclibmmlgogaaGreatT4
set_option linter.unusedVariables false
set_option linter.unusedSimpArgs false
namespace Go.Proofs.YtkmclibmmlgogaaGreat
open Go.y3 Go.y3.S Go.y3.Sh
theorem Xo:gU A (cT gW (gl sU)) bE W7 [] [] 40 a24 (FB 3 0)=true:=by kernel_rfl
theorem Xp:gU A (cT gW (gl sU)) bE W7 [] [] 40 a24 (FB 3 1)=true:=by kernel_rfl
end Go.Proofs.YtkmclibmmlgogaaGreat

