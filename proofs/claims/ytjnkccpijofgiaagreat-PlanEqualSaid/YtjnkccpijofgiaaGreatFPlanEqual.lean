/- The law PlanEqual returns true for every two plans: the program's comparison of plans and the reference's are walked for all plans whatever; the layer's closed check is run by the kernel. No condition. -/
import Derived.Test.YtjnkccpijofgiaaGreatRows
import Derived.Test.YtjnkccpijofgiaaGreatH2
import Derived.Test.YtjnkccpijofgiaaGreatB5
import Derived.WalkKit
import Derived.ProofKit
import Derived.OpenShut
namespace Go.Proofs.YtjnkccpijofgiaaGreat
namespace planEqual
open Go.ChangeShapes Go.WideShapes Go.ChangeAt Go.RowKit

theorem own : ownKnob Tryz.prog.godebug = none := by kernel_rfl
open Go.Abs in
theorem walk (xs : List AVal) (h : ArgsFit Tryz.prog Tryz.f5.params.toList [ctPln, ctPln] xs) : ∃ n, call A n 5 xs [] lim0 = some (.d (.bool true), []) := by
  rw [show Tryz.f5.params.toList = [26, 26] by kernel_rfl] at h
  simp only [ArgsFit] at h
  obtain ⟨ds0, r0, rfl, h0, ds1, r1, rfl, h1, rfl⟩ := h
  obtain ⟨p0, rfl, g0⟩ := row_Pln h0
  obtain ⟨p1, rfl, g1⟩ := row_Pln h1
  rw [show isStr Tryz.prog 26 = true by kernel_rfl]
  obtain ⟨N, hN⟩ := pf5 p0 p1 g0.fits g1.fits
  exact ⟨N, hN N (Nat.le_refl _)⟩

set_option maxRecDepth 100000 in
theorem lifted (os : Os) (started : os.Started) (H : Type) (enc : TypeId × Value → H) :
    ReturnsInHanded {} Tryz.checked os 5 .any (Rows.planEqualSpec.pre6 enc Tryz.prog Tryz.f5 Rows.planEqualRow.domain false) (Rows.planEqualSpec.post enc Tryz.prog Tryz.f5 false true false false) := by
  refine returnsInHanded_of_change (C := Tryz.checked) own started (by kernel_rfl) Tryz.func5
    (ChangeSpec.witness6 (enc := enc) (C := Tryz.checked) false ⟨#[], #[.agg #[.slice none 0 0, .slice none 0 0, .slice none 0 0], .agg #[.slice none 0 0, .slice none 0 0, .slice none 0 0]], []⟩ 8 (by kernel_rfl) (by kernel_rfl) (by kernel_rfl) (by kernel_rfl)) ?_
  intro W base args ds gs before hval0 hW hcnd _
  have hl : DataW.Whole enc Tryz.prog Tryz.f5.params.toList Rows.planEqualSpec.vars false W args.toList ds gs before := hW
  have hlen : ∃ d1 d2, ds = [d1, d2] := by
    obtain ⟨p, q, hA0, _⟩ := hl
    rw [show Tryz.f5.params.toList = [26, 26] by kernel_rfl] at hA0
    obtain ⟨v0, vs0, d0, ds0, p0, q0, _, rfl, rfl, h0, r0⟩ := trodAll_cons hA0
    obtain ⟨v1, vs1, d1, ds1, p1, q1, _, rfl, rfl, h1, r1⟩ := trodAll_cons r0
    obtain ⟨_, rfl, _⟩ := trodAll_nil r1
    exact ⟨_, _, rfl⟩
  obtain ⟨d1, d2, rfl⟩ := hlen
  exact Abs.law_row (ls := [ctPln, ctPln]) A_sound rfl (by kernel_rfl) Tryz.underlying4 (by kernel_rfl) rfl hval0 hW walk

theorem over : Rows.planEqualRow.holds Tryz.pinned (OpenSpec.ofChange Rows.planEqualSpec) :=
  OpenClaim.holds_of_wide 5 Tryz.f5 rfl rfl rfl rfl rfl rfl rfl ⟨rfl, rfl, rfl, rfl, rfl⟩ rfl rfl rfl rfl rfl (by kernel_rfl) Tryz.func5 (by kernel_rfl)
    (of_decide_eq_true (by kernel_rfl)) (by unfold Func.isWrapper; first | (rw [if_pos (by decide +kernel)]; kernel_rfl) | (rw [if_neg (by decide +kernel)]; exact ⟨rfl, rfl⟩))
    (fun os started H enc _ => lifted os started H enc)

theorem proved : Rows.PlanEqualSaid :=
  over
end planEqual
end Go.Proofs.YtjnkccpijofgiaaGreat
