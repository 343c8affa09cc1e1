import Derived.Test.YtibjocmpkoepoaaGreatT4
set_option linter.all false
namespace Go.Proofs.YtibjocmpkoepoaaGreat
open Go.A2 Go.A2.S Go.A2.Sh
theorem az6:fA A (cz gy (ey sU)) aj V0 [] [] 40 Iz (EP 1 0)=true:=by kernel_rfl
theorem az7:fA A (cz gy (ey sU)) aj V0 [] [] 40 Iz (EP 1 1)=true:=by kernel_rfl
theorem az8:fA A (cz gy (ey sU)) aj V0 [] [] 40 Iz (EP 1 2)=true:=by kernel_rfl
theorem az9:fA A (cz gy (ey sU)) aj V0 [] [] 40 Iz (EP 1 3)=true:=by kernel_rfl
theorem aA0:fA A (cz gy (ey sU)) aj V0 [] [] 40 Iz (EP 1 4)=true:=by kernel_rfl
end Go.Proofs.YtibjocmpkoepoaaGreat

