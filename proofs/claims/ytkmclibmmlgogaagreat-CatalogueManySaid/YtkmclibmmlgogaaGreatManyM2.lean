/-
  Calls in the law's run, by the kernel.
-/
import Derived.Test.YtkmclibmmlgogaaGreatManyV
namespace Go.Proofs.YtkmclibmmlgogaaGreat
open Go.Abs
theorem Manym4 : call A 1000 27 Manyv1 [] lim0 = some ((.tuple [(.d (.int .i64 0)), (.d (.int .i64 0))]), []) := by kernel_rfl
end Go.Proofs.YtkmclibmmlgogaaGreat
