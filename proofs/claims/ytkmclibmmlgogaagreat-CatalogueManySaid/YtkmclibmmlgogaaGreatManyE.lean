/-
  The calls whose results are known.
-/
import Derived.Test.YtkmclibmmlgogaaGreatManyM0
import Derived.Test.YtkmclibmmlgogaaGreatManyM1
import Derived.Test.YtkmclibmmlgogaaGreatManyM2
import Derived.Test.YtkmclibmmlgogaaGreatManyM3
import Derived.Test.YtkmclibmmlgogaaGreatManyM4
import Derived.Test.YtkmclibmmlgogaaGreatManyM5
namespace Go.Proofs.YtkmclibmmlgogaaGreat
open Go.Abs
def Manyes : List Ent := [⟨26, Manyv0, (.tuple [(.d (.int .i64 0)), (.d (.int .i64 0))])⟩, ⟨27, Manyv0, (.tuple [(.d (.int .i64 0)), (.d (.int .i64 0))])⟩, ⟨10, Manyv0, (.d (.bool true))⟩, ⟨26, Manyv1, (.tuple [(.d (.int .i64 0)), (.d (.int .i64 0))])⟩, ⟨27, Manyv1, (.tuple [(.d (.int .i64 0)), (.d (.int .i64 0))])⟩, ⟨10, Manyv1, (.d (.bool true))⟩, ⟨26, Manyv2, (.tuple [(.d (.int .i64 0)), (.d (.int .i64 0))])⟩, ⟨27, Manyv2, (.tuple [(.d (.int .i64 0)), (.d (.int .i64 0))])⟩, ⟨10, Manyv2, (.d (.bool true))⟩, ⟨11, Manyv3, (.d (.bool true))⟩, ⟨26, Manyv4, (.tuple [(.d (.int .i64 0)), (.d (.int .i64 8))])⟩, ⟨27, Manyv4, (.tuple [(.d (.int .i64 0)), (.d (.int .i64 8))])⟩, ⟨10, Manyv4, (.d (.bool false))⟩, ⟨26, Manyv5, (.tuple [(.d (.int .i64 0)), (.d (.int .i64 8))])⟩, ⟨27, Manyv5, (.tuple [(.d (.int .i64 0)), (.d (.int .i64 8))])⟩, ⟨10, Manyv5, (.d (.bool false))⟩, ⟨26, Manyv6, (.tuple [(.d (.int .i64 0)), (.d (.int .i64 8))])⟩, ⟨27, Manyv6, (.tuple [(.d (.int .i64 0)), (.d (.int .i64 8))])⟩, ⟨10, Manyv6, (.d (.bool false))⟩]
theorem Manyes_ok : ∀ e, e ∈ Manyes → ∃ n, call A n e.f e.args [] lim0 = some (e.res, []) := by
  intro e he
  simp only [Manyes, List.mem_cons, List.not_mem_nil, or_false] at he
  rcases he with rfl | rfl | rfl | rfl | rfl | rfl | rfl | rfl | rfl | rfl | rfl | rfl | rfl | rfl | rfl | rfl | rfl | rfl | rfl
  · exact ⟨1000, Manym0⟩
  · exact ⟨1000, Manym1⟩
  · exact ⟨1000, Manym2⟩
  · exact ⟨1000, Manym3⟩
  · exact ⟨1000, Manym4⟩
  · exact ⟨1000, Manym5⟩
  · exact ⟨1000, Manym6⟩
  · exact ⟨1000, Manym7⟩
  · exact ⟨1000, Manym8⟩
  · exact ⟨1000, Manym9⟩
  · exact ⟨1000, Manym10⟩
  · exact ⟨1000, Manym11⟩
  · exact ⟨1000, Manym12⟩
  · exact ⟨1000, Manym13⟩
  · exact ⟨1000, Manym14⟩
  · exact ⟨1000, Manym15⟩
  · exact ⟨1000, Manym16⟩
  · exact ⟨1000, Manym17⟩
  · exact ⟨1000, Manym18⟩
def ManyA : Go.Abs.Prog := memo A Manyes
theorem ManyA_ok : ProgOK Tryz.prog ManyA := memo_ok A_ok Manyes_ok
end Go.Proofs.YtkmclibmmlgogaaGreat
