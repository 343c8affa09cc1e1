import Derived.Test.YtibjocmpkoepoaaGreatT4
set_option linter.all false
open Bool renaming true→W
namespace Go.Proofs.YtibjocmpkoepoaaGreat
open Go.A1 Go.A1.S Go.A1.Sh
theorem aW9:gm A (dm ij (fC sU)) aS W5 [] [] 40 Lg (HF 3 4)=W:=by kernel_rfl
end Go.Proofs.YtibjocmpkoepoaaGreat

