/- The law CatalogueRaw returns true for every catalogue and every number: the program's check and the functions that look into a catalogue are shown to agree with the reference for every small catalogue. No condition. -/
import Derived.Test.YtkmclibmmlgogaaGreatRows
import Derived.Test.YtkmclibmmlgogaaGreatX6
import Derived.Test.YtkmclibmmlgogaaGreatX7
import Derived.Test.YtkmclibmmlgogaaGreatB5
import Derived.WalkKit
import Derived.ProofKit
import Derived.OpenShut
namespace Go.Proofs.YtkmclibmmlgogaaGreat
open Go.Abs in
theorem A_good : ProgOK Tryz.prog A := A_ok (fun f p h => by
  refine prims f p _ ?_
  revert h
  unfold A
  simp only
  split
  · rename_i h; rintro h2; cases h2; exact .inr (.inr ⟨h, rfl⟩)
  · split
    · rename_i h; rintro h2; cases h2; exact .inl ⟨h, rfl⟩
    · split
      · rename_i h; rintro h2; cases h2; exact .inr (.inl ⟨h, rfl⟩)
      · rintro h2; cases h2)
namespace catalogueRaw
open Go.ChangeShapes Go.WideShapes Go.ChangeAt Go.RowKit

theorem own : ownKnob Tryz.prog.godebug = none := by kernel_rfl
open Go.Abs in
theorem walk (xs : List AVal) (h : ArgsFit Tryz.prog Tryz.f6.params.toList [ctCat, [ctI]] xs) : ∃ n, call A n 6 xs [] lim0 = some (.d (.bool true), []) := by
  rw [show Tryz.f6.params.toList = [31, 3] by kernel_rfl] at h
  simp only [ArgsFit] at h
  obtain ⟨ds, r, rfl, h1, ds2, r2, rfl, h2, rfl⟩ := h
  obtain ⟨c, rfl, -⟩ := row_Cat h1
  simp only [List.tail_cons, List.headD_cons, FitsL] at h2
  obtain ⟨d, r, rfl, h3, rfl⟩ := h2
  obtain ⟨n, rfl, -⟩ := fits_num h3
  rw [show isStr Tryz.prog 31 = true by kernel_rfl, show isStr Tryz.prog 3 = false by kernel_rfl]
  obtain ⟨N, hN⟩ := pf6 c n
  exact ⟨N, hN N (Nat.le_refl _)⟩

set_option maxRecDepth 100000 in
theorem lifted (os : Os) (started : os.Started) (H : Type) (enc : TypeId × Value → H) :
    ReturnsInHanded {} Tryz.checked os 6 .any (Rows.catalogueRawSpec.pre6 enc Tryz.prog Tryz.f6 Rows.catalogueRawRow.domain false) (Rows.catalogueRawSpec.post enc Tryz.prog Tryz.f6 false true false false) := by
  refine returnsInHanded_of_change (C := Tryz.checked) own started (by kernel_rfl) Tryz.func6
    (ChangeSpec.witness6 (enc := enc) (C := Tryz.checked) false ⟨#[], #[.agg #[.slice none 0 0, .slice none 0 0, .slice none 0 0, .slice none 0 0, .slice none 0 0, .slice none 0 0, .slice none 0 0, .slice none 0 0], .int .i64 0], []⟩ 8 (by kernel_rfl) (by kernel_rfl) (by kernel_rfl) (by kernel_rfl)) ?_
  intro W base args ds gs before hval0 hW hcnd _
  have hl : DataW.Whole enc Tryz.prog Tryz.f6.params.toList Rows.catalogueRawSpec.vars false W args.toList ds gs before := hW
  have hlen : ∃ d1 d2, ds = [d1, d2] := by
    obtain ⟨p, q, hA0, _⟩ := hl
    rw [show Tryz.f6.params.toList = [31, 3] by kernel_rfl] at hA0
    obtain ⟨v0, vs0, d0, ds0, p0, q0, _, rfl, rfl, h0, r0⟩ := trodAll_cons hA0
    obtain ⟨v1, vs1, d1, ds1, p1, q1, _, rfl, rfl, h1, r1⟩ := trodAll_cons r0
    obtain ⟨_, rfl, _⟩ := trodAll_nil r1
    exact ⟨_, _, rfl⟩
  obtain ⟨d1, d2, rfl⟩ := hlen
  exact Abs.law_row (ls := [Abs.ctCat, [Abs.ctI]]) A_good rfl (by kernel_rfl) Tryz.underlying4 (by kernel_rfl) rfl hval0 hW walk

theorem over : Rows.catalogueRawRow.holds Tryz.pinned (OpenSpec.ofChange Rows.catalogueRawSpec) :=
  OpenClaim.holds_of_wide 6 Tryz.f6 rfl rfl rfl rfl rfl rfl rfl ⟨rfl, rfl, rfl, rfl, rfl⟩ rfl rfl rfl rfl rfl (by kernel_rfl) Tryz.func6 (by kernel_rfl)
    (of_decide_eq_true (by kernel_rfl)) (by unfold Func.isWrapper; first | (rw [if_pos (by decide +kernel)]; kernel_rfl) | (rw [if_neg (by decide +kernel)]; exact ⟨rfl, rfl⟩))
    (fun os started H enc _ => lifted os started H enc)

theorem proved : Rows.CatalogueRawSaid :=
  over
end catalogueRaw
end Go.Proofs.YtkmclibmmlgogaaGreat
