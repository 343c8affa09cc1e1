/-
  The law's run in the abstract machine, whatever its argument.
-/
import Derived.Test.YtkmclibmmlgogaaGreatManyE
import Derived.Test.YtkmclibmmlgogaaGreatB4
namespace Go.Proofs.YtkmclibmmlgogaaGreat
open Go.Abs

namespace ManyLaw

def E0 : Env := ⟨call ManyA 999, ManyA.prom, ManyA.mode, ManyA.idle, lim0, 0⟩
def r0 : List AIns := match a3.body with
  | .seq (.region r _) _ => r
  | _ => []
def r1 : List AIns := match a3.body with
  | .seq _ (.seq (.region r _) _) => r
  | _ => []
def rest : ACode := match a3.body with
  | .seq _ (.seq _ r) => r
  | _ => .bad
def T0 (n : Int) : List AVal := [.d (.int .u8 n), .any, .any, .any, .any, .any, .any, .any, .any]
def T1 (n d : Int) : List AVal := [.d (.int .u8 n), .d (.bool false), .d (.int .i64 d), .any, .any, .any, .any, .any, .any]

theorem body_eq : a3.body = .seq (.region r0 false) (.seq (.region r1 false) rest) := by kernel_rfl
theorem prim_eq : ManyA.prim 3 = none := by kernel_rfl
theorem fn_eq : ManyA.fn 3 = some a3 := by kernel_rfl

theorem call_eq (n : Int) : call ManyA 1000 3 [.d (.int .u8 n)] [] lim0 = finRun a3 0 (exec E0 999 a3.body ⟨T0 n, []⟩) := by
  show call ManyA (999 + 1) 3 [.d (.int .u8 n)] [] lim0 = _
  rw [call_fn prim_eq fn_eq, callBody_fin (by rfl)]
  congr 1

theorem start (n : Int) : exec E0 999 (.seq (.region r0 false) (.region r1 false)) ⟨T0 n, []⟩ = some (.normal, ⟨T1 n (IntKind.i64.wrap (n.tmod 2)), []⟩) := by kernel_rfl

theorem run0 (n : Int) : finRun a3 0 (exec E0 999 rest ⟨T1 n 0, []⟩) = some (.d (.bool true), []) := by kernel_rfl
theorem run1 (n : Int) : finRun a3 0 (exec E0 999 rest ⟨T1 n 1, []⟩) = some (.d (.bool true), []) := by kernel_rfl

theorem whole (n : Int) (h : 0 ≤ n) : call ManyA 1000 3 [.d (.int .u8 n)] [] lim0 = some (.d (.bool true), []) := by
  rw [call_eq, body_eq, exec_seq, exec_seq, ← andThen_assoc, ← exec_seq]
  unfold andThen
  rw [start n]
  simp only
  rw [Int.tmod_eq_emod_of_nonneg h]
  have h2 : n % 2 = 0 ∨ n % 2 = 1 := by omega
  rcases h2 with h2 | h2
  · rw [h2]; exact run0 n
  · rw [h2]; exact run1 n

end ManyLaw
end Go.Proofs.YtkmclibmmlgogaaGreat
