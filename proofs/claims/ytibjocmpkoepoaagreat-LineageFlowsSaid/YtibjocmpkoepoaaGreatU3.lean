import Derived.Test.YtibjocmpkoepoaaGreatT4
set_option linter.all false
namespace Go.Proofs.YtibjocmpkoepoaaGreat
open Go.A2 Go.A2.S Go.A2.Sh
theorem aA6:fA A (cz gy (ey sU)) aj V0 [] [] 40 Iz (EP 3 0)=true:=by kernel_rfl
theorem aA7:fA A (cz gy (ey sU)) aj V0 [] [] 40 Iz (EP 3 1)=true:=by kernel_rfl
theorem aA8:fA A (cz gy (ey sU)) aj V0 [] [] 40 Iz (EP 3 2)=true:=by kernel_rfl
theorem aA9:fA A (cz gy (ey sU)) aj V0 [] [] 40 Iz (EP 3 3)=true:=by kernel_rfl
end Go.Proofs.YtibjocmpkoepoaaGreat

