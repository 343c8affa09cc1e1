/-
  Calls in the law's run, by the kernel.
-/
import Derived.Test.YtkmclibmmlgogaaGreatManyV
namespace Go.Proofs.YtkmclibmmlgogaaGreat
open Go.Abs
theorem Manym10 : call A 1000 26 Manyv4 [] lim0 = some ((.tuple [(.d (.int .i64 0)), (.d (.int .i64 8))]), []) := by kernel_rfl
theorem Manym11 : call A 1000 27 Manyv4 [] lim0 = some ((.tuple [(.d (.int .i64 0)), (.d (.int .i64 8))]), []) := by kernel_rfl
theorem Manym12 : call A 1000 10 Manyv4 [] lim0 = some ((.d (.bool false)), []) := by kernel_rfl
theorem Manym13 : call A 1000 26 Manyv5 [] lim0 = some ((.tuple [(.d (.int .i64 0)), (.d (.int .i64 8))]), []) := by kernel_rfl
theorem Manym14 : call A 1000 27 Manyv5 [] lim0 = some ((.tuple [(.d (.int .i64 0)), (.d (.int .i64 8))]), []) := by kernel_rfl
theorem Manym15 : call A 1000 10 Manyv5 [] lim0 = some ((.d (.bool false)), []) := by kernel_rfl
theorem Manym16 : call A 1000 26 Manyv6 [] lim0 = some ((.tuple [(.d (.int .i64 0)), (.d (.int .i64 8))]), []) := by kernel_rfl
theorem Manym17 : call A 1000 27 Manyv6 [] lim0 = some ((.tuple [(.d (.int .i64 0)), (.d (.int .i64 8))]), []) := by kernel_rfl
theorem Manym18 : call A 1000 10 Manyv6 [] lim0 = some ((.d (.bool false)), []) := by kernel_rfl
end Go.Proofs.YtkmclibmmlgogaaGreat
