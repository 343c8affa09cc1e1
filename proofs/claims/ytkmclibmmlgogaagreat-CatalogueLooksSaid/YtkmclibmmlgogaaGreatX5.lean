/- Texts D60 D61 (made short by a program) -/
import Derived.Test.YtkmclibmmlgogaaGreatD6
set_option linter.unusedVariables false
set_option linter.unusedSimpArgs false
namespace Go.Proofs.YtkmclibmmlgogaaGreat
open Go.z7 Go.z7.S
attribute [local irreducible] Rx Ry Rn Ex Pf
section
variable {A:Prog} {l:H7} {b:Nat} {dr:Bool} {j4 ops:List n9} {T:List b6} {H:o6} {n:Nat} {rl:List b6} {n7:List z7.Touch} {Q:List b6->o6->List b6->Prop}
end
end Go.Proofs.YtkmclibmmlgogaaGreat

