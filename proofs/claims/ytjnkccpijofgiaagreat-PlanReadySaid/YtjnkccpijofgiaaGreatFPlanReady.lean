/- The law PlanReady returns true for every plan, list of numbers and day: Ready and Late, of the program and of the reference, are walked for all plans with few steps; the others end in the layer's closed check, which is run by the kernel. No condition. -/
import Derived.Test.YtjnkccpijofgiaaGreatRows
import Derived.Test.YtjnkccpijofgiaaGreatH3
import Derived.Test.YtjnkccpijofgiaaGreatH2
import Derived.Test.YtjnkccpijofgiaaGreatB5
import Derived.WalkKit
import Derived.ProofKit
import Derived.OpenShut
namespace Go.Proofs.YtjnkccpijofgiaaGreat
namespace planReady
open Go.ChangeShapes Go.WideShapes Go.ChangeAt Go.RowKit

theorem own : ownKnob Tryz.prog.godebug = none := by kernel_rfl
open Go.Abs in
theorem walk (xs : List AVal) (h : ArgsFit Tryz.prog Tryz.f4.params.toList [ctPln, [.slice [ctI]], [ctI]] xs) : ∃ n, call A n 4 xs [] lim0 = some (.d (.bool true), []) := by
  rw [show Tryz.f4.params.toList = [26, 29, 3] by kernel_rfl] at h
  simp only [ArgsFit] at h
  obtain ⟨ds0, r0, rfl, h0, ds1, r1, rfl, h1, ds2, r2, rfl, h2, rfl⟩ := h
  obtain ⟨p0, rfl, g0⟩ := row_Pln h0
  simp only [List.tail_cons, List.headD_cons, FitsL] at h1
  obtain ⟨d, r, rfl, e1, rfl⟩ := h1
  obtain ⟨p1, rfl, g1, g1'⟩ := fits_slice (fun _ => row_num) e1
  simp only [List.tail_cons, List.headD_cons, FitsL] at h2
  obtain ⟨d, r, rfl, e2, rfl⟩ := h2
  obtain ⟨p2, rfl, g2⟩ := fits_num e2
  rw [show isStr Tryz.prog 3 = false by kernel_rfl, show isStr Tryz.prog 26 = true by kernel_rfl, show isStr Tryz.prog 29 = false by kernel_rfl]
  obtain ⟨N, hN⟩ := pf4 p0 p1 p2 g0 g1 g1' g2
  exact ⟨N, hN N (Nat.le_refl _)⟩

set_option maxRecDepth 100000 in
theorem lifted (os : Os) (started : os.Started) (H : Type) (enc : TypeId × Value → H) :
    ReturnsInHanded {} Tryz.checked os 4 .any (Rows.planReadySpec.pre6 enc Tryz.prog Tryz.f4 Rows.planReadyRow.domain false) (Rows.planReadySpec.post enc Tryz.prog Tryz.f4 false true false false) := by
  refine returnsInHanded_of_change (C := Tryz.checked) own started (by kernel_rfl) Tryz.func4
    (ChangeSpec.witness6 (enc := enc) (C := Tryz.checked) false ⟨#[], #[.agg #[.slice none 0 0, .slice none 0 0, .slice none 0 0], .slice none 0 0, .int .i64 0], []⟩ 8 (by kernel_rfl) (by kernel_rfl) (by kernel_rfl) (by kernel_rfl)) ?_
  intro W base args ds gs before hval0 hW hcnd _
  have hl : DataW.Whole enc Tryz.prog Tryz.f4.params.toList Rows.planReadySpec.vars false W args.toList ds gs before := hW
  have hlen : ∃ d1 d2 d3, ds = [d1, d2, d3] := by
    obtain ⟨p, q, hA0, _⟩ := hl
    rw [show Tryz.f4.params.toList = [26, 29, 3] by kernel_rfl] at hA0
    obtain ⟨v0, vs0, d0, ds0, p0, q0, _, rfl, rfl, h0, r0⟩ := trodAll_cons hA0
    obtain ⟨v1, vs1, d1, ds1, p1, q1, _, rfl, rfl, h1, r1⟩ := trodAll_cons r0
    obtain ⟨v2, vs2, d2, ds2, p2, q2, _, rfl, rfl, h2, r2⟩ := trodAll_cons r1
    obtain ⟨_, rfl, _⟩ := trodAll_nil r2
    exact ⟨_, _, _, rfl⟩
  obtain ⟨d1, d2, d3, rfl⟩ := hlen
  exact Abs.law_row (ls := [ctPln, [.slice [Abs.ctI]], [Abs.ctI]]) A_sound rfl (by kernel_rfl) Tryz.underlying4 (by kernel_rfl) rfl hval0 hW walk

theorem over : Rows.planReadyRow.holds Tryz.pinned (OpenSpec.ofChange Rows.planReadySpec) :=
  OpenClaim.holds_of_wide 4 Tryz.f4 rfl rfl rfl rfl rfl rfl rfl ⟨rfl, rfl, rfl, rfl, rfl⟩ rfl rfl rfl rfl rfl (by kernel_rfl) Tryz.func4 (by kernel_rfl)
    (of_decide_eq_true (by kernel_rfl)) (by unfold Func.isWrapper; first | (rw [if_pos (by decide +kernel)]; kernel_rfl) | (rw [if_neg (by decide +kernel)]; exact ⟨rfl, rfl⟩))
    (fun os started H enc _ => lifted os started H enc)

theorem proved : Rows.PlanReadySaid :=
  over
end planReady
end Go.Proofs.YtjnkccpijofgiaaGreat
