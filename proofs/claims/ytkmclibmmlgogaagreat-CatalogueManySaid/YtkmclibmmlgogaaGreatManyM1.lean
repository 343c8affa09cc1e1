/-
  Calls in the law's run, by the kernel.
-/
import Derived.Test.YtkmclibmmlgogaaGreatManyV
namespace Go.Proofs.YtkmclibmmlgogaaGreat
open Go.Abs
theorem Manym3 : call A 1000 26 Manyv1 [] lim0 = some ((.tuple [(.d (.int .i64 0)), (.d (.int .i64 0))]), []) := by kernel_rfl
theorem Manym5 : call A 1000 10 Manyv1 [] lim0 = some ((.d (.bool true)), []) := by kernel_rfl
theorem Manym6 : call A 1000 26 Manyv2 [] lim0 = some ((.tuple [(.d (.int .i64 0)), (.d (.int .i64 0))]), []) := by kernel_rfl
theorem Manym8 : call A 1000 10 Manyv2 [] lim0 = some ((.d (.bool true)), []) := by kernel_rfl
end Go.Proofs.YtkmclibmmlgogaaGreat
