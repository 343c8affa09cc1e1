/-
  Calls in the law's run, by the kernel.
-/
import Derived.Test.YtkmclibmmlgogaaGreatManyV
namespace Go.Proofs.YtkmclibmmlgogaaGreat
open Go.Abs
theorem Manym0 : call A 1000 26 Manyv0 [] lim0 = some ((.tuple [(.d (.int .i64 0)), (.d (.int .i64 0))]), []) := by kernel_rfl
theorem Manym1 : call A 1000 27 Manyv0 [] lim0 = some ((.tuple [(.d (.int .i64 0)), (.d (.int .i64 0))]), []) := by kernel_rfl
theorem Manym2 : call A 1000 10 Manyv0 [] lim0 = some ((.d (.bool true)), []) := by kernel_rfl
end Go.Proofs.YtkmclibmmlgogaaGreat
