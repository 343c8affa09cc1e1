import Derived.Test.YtibjocmpkoepoaaGreatT4
set_option linter.all false
open Bool renaming true→W
namespace Go.Proofs.YtibjocmpkoepoaaGreat
open Go.A1 Go.A1.S Go.A1.Sh
theorem aW0:gm A (dm ij (fC sU)) aS W5 [] [] 40 Lg (HF 2 0)=W:=by kernel_rfl
theorem aW1:gm A (dm ij (fC sU)) aS W5 [] [] 40 Lg (HF 2 1)=W:=by kernel_rfl
theorem aW2:gm A (dm ij (fC sU)) aS W5 [] [] 40 Lg (HF 2 2)=W:=by kernel_rfl
theorem aW3:gm A (dm ij (fC sU)) aS W5 [] [] 40 Lg (HF 2 3)=W:=by kernel_rfl
theorem aW4:gm A (dm ij (fC sU)) aS W5 [] [] 40 Lg (HF 2 4)=W:=by kernel_rfl
end Go.Proofs.YtibjocmpkoepoaaGreat

