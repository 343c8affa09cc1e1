import Derived.Test.YtibjocmpkoepoaaGreatT4
set_option linter.all false
namespace Go.Proofs.YtibjocmpkoepoaaGreat
open Go.A2 Go.A2.S Go.A2.Sh
theorem aA1:fA A (cz gy (ey sU)) aj V0 [] [] 40 Iz (EP 2 0)=true:=by kernel_rfl
theorem aA2:fA A (cz gy (ey sU)) aj V0 [] [] 40 Iz (EP 2 1)=true:=by kernel_rfl
theorem aA3:fA A (cz gy (ey sU)) aj V0 [] [] 40 Iz (EP 2 2)=true:=by kernel_rfl
theorem aA4:fA A (cz gy (ey sU)) aj V0 [] [] 40 Iz (EP 2 3)=true:=by kernel_rfl
theorem aA5:fA A (cz gy (ey sU)) aj V0 [] [] 40 Iz (EP 2 4)=true:=by kernel_rfl
end Go.Proofs.YtibjocmpkoepoaaGreat

