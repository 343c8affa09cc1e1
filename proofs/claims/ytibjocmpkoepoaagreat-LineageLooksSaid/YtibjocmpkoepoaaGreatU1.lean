import Derived.Test.YtibjocmpkoepoaaGreatT4
set_option linter.all false
open Bool renaming true→W
namespace Go.Proofs.YtibjocmpkoepoaaGreat
open Go.A1 Go.A1.S Go.A1.Sh
theorem aV5:gm A (dm ij (fC sU)) aS W5 [] [] 40 Lg (HF 1 0)=W:=by kernel_rfl
theorem aV6:gm A (dm ij (fC sU)) aS W5 [] [] 40 Lg (HF 1 1)=W:=by kernel_rfl
theorem aV7:gm A (dm ij (fC sU)) aS W5 [] [] 40 Lg (HF 1 2)=W:=by kernel_rfl
theorem aV8:gm A (dm ij (fC sU)) aS W5 [] [] 40 Lg (HF 1 3)=W:=by kernel_rfl
theorem aV9:gm A (dm ij (fC sU)) aS W5 [] [] 40 Lg (HF 1 4)=W:=by kernel_rfl
end Go.Proofs.YtibjocmpkoepoaaGreat

