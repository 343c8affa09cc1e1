import Derived.Test.YtibjocmpkoepoaaGreatT4
set_option linter.all false
open Bool renaming true→W
namespace Go.Proofs.YtibjocmpkoepoaaGreat
open Go.A1 Go.A1.S Go.A1.Sh
theorem aW5:gm A (dm ij (fC sU)) aS W5 [] [] 40 Lg (HF 3 0)=W:=by kernel_rfl
theorem aW6:gm A (dm ij (fC sU)) aS W5 [] [] 40 Lg (HF 3 1)=W:=by kernel_rfl
theorem aW7:gm A (dm ij (fC sU)) aS W5 [] [] 40 Lg (HF 3 2)=W:=by kernel_rfl
theorem aW8:gm A (dm ij (fC sU)) aS W5 [] [] 40 Lg (HF 3 3)=W:=by kernel_rfl
end Go.Proofs.YtibjocmpkoepoaaGreat

