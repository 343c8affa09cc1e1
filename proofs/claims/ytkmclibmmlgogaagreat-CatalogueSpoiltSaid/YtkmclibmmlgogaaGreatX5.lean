/- Texts D60 D61 (made short by a program) -/
import Derived.Test.YtkmclibmmlgogaaGreatD6
set_option linter.unusedVariables false
set_option linter.unusedSimpArgs false
namespace Go.Proofs.YtkmclibmmlgogaaGreat
open Go.y3 Go.y3.S
attribute [local irreducible] Rx Ry Rn Ex Pf
@[irreducible] def bx0 (n:Int):Int:=IntKind.i64.wrap n
section
variable {A:Prog} {l:G9} {b:Nat} {dr:Bool} {j4 ops:List n8} {T:List b6} {H:o6} {n:Nat} {rl:List b6} {n6:List y3.Touch} {Q:List b6->o6->List b6->Prop}
end
end Go.Proofs.YtkmclibmmlgogaaGreat

