/- The law PlanOrders returns true for every plan: Order and Heights, of the program and of the reference, are walked for all plans with few steps; the others end in the layer's closed check, which is run by the kernel. No condition. -/
import Derived.Test.YtjnkccpijofgiaaGreatRows
import Derived.Test.YtjnkccpijofgiaaGreatH3
import Derived.Test.YtjnkccpijofgiaaGreatH2
import Derived.Test.YtjnkccpijofgiaaGreatB5
import Derived.WalkKit
import Derived.ProofKit
import Derived.OpenShut
namespace Go.Proofs.YtjnkccpijofgiaaGreat
namespace planOrders
open Go.ChangeShapes Go.WideShapes Go.ChangeAt Go.RowKit

theorem own : ownKnob Tryz.prog.godebug = none := by kernel_rfl
open Go.Abs in
theorem walk (xs : List AVal) (h : ArgsFit Tryz.prog Tryz.f3.params.toList [ctPln] xs) : ∃ n, call A n 3 xs [] lim0 = some (.d (.bool true), []) := by
  rw [show Tryz.f3.params.toList = [26] by kernel_rfl] at h
  simp only [ArgsFit] at h
  obtain ⟨ds0, r0, rfl, h0, rfl⟩ := h
  obtain ⟨p0, rfl, g0⟩ := row_Pln h0
  rw [show isStr Tryz.prog 26 = true by kernel_rfl]
  obtain ⟨N, hN⟩ := pf3 p0 g0
  exact ⟨N, hN N (Nat.le_refl _)⟩

set_option maxRecDepth 100000 in
theorem lifted (os : Os) (started : os.Started) (H : Type) (enc : TypeId × Value → H) :
    ReturnsInHanded {} Tryz.checked os 3 .any (Rows.planOrdersSpec.pre6 enc Tryz.prog Tryz.f3 Rows.planOrdersRow.domain false) (Rows.planOrdersSpec.post enc Tryz.prog Tryz.f3 false true false false) := by
  refine returnsInHanded_of_change (C := Tryz.checked) own started (by kernel_rfl) Tryz.func3
    (ChangeSpec.witness6 (enc := enc) (C := Tryz.checked) false ⟨#[], #[.agg #[.slice none 0 0, .slice none 0 0, .slice none 0 0]], []⟩ 8 (by kernel_rfl) (by kernel_rfl) (by kernel_rfl) (by kernel_rfl)) ?_
  intro W base args ds gs before hval0 hW hcnd _
  have hl : DataW.Whole enc Tryz.prog Tryz.f3.params.toList Rows.planOrdersSpec.vars false W args.toList ds gs before := hW
  have hlen : ∃ d1, ds = [d1] := by
    obtain ⟨p, q, hA0, _⟩ := hl
    rw [show Tryz.f3.params.toList = [26] by kernel_rfl] at hA0
    obtain ⟨v0, vs0, d0, ds0, p0, q0, _, rfl, rfl, h0, r0⟩ := trodAll_cons hA0
    obtain ⟨_, rfl, _⟩ := trodAll_nil r0
    exact ⟨_, rfl⟩
  obtain ⟨d1, rfl⟩ := hlen
  exact Abs.law_row (ls := [ctPln]) A_sound rfl (by kernel_rfl) Tryz.underlying4 (by kernel_rfl) rfl hval0 hW walk

theorem over : Rows.planOrdersRow.holds Tryz.pinned (OpenSpec.ofChange Rows.planOrdersSpec) :=
  OpenClaim.holds_of_wide 3 Tryz.f3 rfl rfl rfl rfl rfl rfl rfl ⟨rfl, rfl, rfl, rfl, rfl⟩ rfl rfl rfl rfl rfl (by kernel_rfl) Tryz.func3 (by kernel_rfl)
    (of_decide_eq_true (by kernel_rfl)) (by unfold Func.isWrapper; first | (rw [if_pos (by decide +kernel)]; kernel_rfl) | (rw [if_neg (by decide +kernel)]; exact ⟨rfl, rfl⟩))
    (fun os started H enc _ => lifted os started H enc)

theorem proved : Rows.PlanOrdersSaid :=
  over
end planOrders
end Go.Proofs.YtjnkccpijofgiaaGreat
