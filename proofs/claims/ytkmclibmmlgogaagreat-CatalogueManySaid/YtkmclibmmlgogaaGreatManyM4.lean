/-
  Calls in the law's run, by the kernel.
-/
import Derived.Test.YtkmclibmmlgogaaGreatManyV
namespace Go.Proofs.YtkmclibmmlgogaaGreat
open Go.Abs
theorem Manym9 : call A 1000 11 Manyv3 [] lim0 = some ((.d (.bool true)), []) := by kernel_rfl
end Go.Proofs.YtkmclibmmlgogaaGreat
