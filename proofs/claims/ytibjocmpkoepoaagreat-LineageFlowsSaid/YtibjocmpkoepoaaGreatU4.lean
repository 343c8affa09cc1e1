import Derived.Test.YtibjocmpkoepoaaGreatT4
set_option linter.all false
namespace Go.Proofs.YtibjocmpkoepoaaGreat
open Go.A2 Go.A2.S Go.A2.Sh
theorem aB0:fA A (cz gy (ey sU)) aj V0 [] [] 40 Iz (EP 3 4)=true:=by kernel_rfl
end Go.Proofs.YtibjocmpkoepoaaGreat

