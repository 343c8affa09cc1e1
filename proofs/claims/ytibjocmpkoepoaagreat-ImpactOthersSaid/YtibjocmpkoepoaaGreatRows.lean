/-
  No cell of these rows narrows 'for every input' (looked for: loops, veiled, ifaces, maps, wideKeys, modest, calm, conditions, laid).
  DERIVED. THE GIVEN ROWS OF THIS SEAT. 9 by the template 'for every input the law returns true; each argument reads behind the call as it read before'; 0 by the template 'total and deterministic' (their statements: YtibjocmpkoepoaaGreatTotals.lean).
  GIVEN WITH THE SEED: the statements are not yours to turn. If you find one false, say at which input.
  Laid BY PROGRAM, IN A SANDBOX (cutbox-rows.mjs): the forced cells as the released guide's own fill.sh prints them over the translation 5ef465ed3adce5ee… (all of the seat's roots in one cut). By AI agents, Wed Nov 11 2026. No macro, syntax, notation, axiom, sorry.
-/
import Derived.Test.YtibjocmpkoepoaaGreatChecked
import GoSem.Claim
import GoSem.ClaimJoined
import GoSem.ClaimMapViews
import Derived.JoinedTies
import Derived.KernelRfl
namespace Go.Proofs.YtibjocmpkoepoaaGreat
/- THE CELL 'sum', in the pinned program and in every row, IS THE sha256 OF THE DUMP (.gsa) THAT YtibjocmpkoepoaaGreatProg.lean LOADS. Nothing in Lean hashes anything: it is a label: what it is worth is what the hold of that sum in a sandbox is worth. -/
noncomputable def Tryz.pinned : Pinned := { name := "ytibjocmpkoepoaagreat", sum := "5ef465ed3adce5eeb7c0a9e33c09222cd0cd565b4bae4974907bbc91fc27d52c", checked := Tryz.checked }
namespace Rows
def none {H : Type} : Left H := { results := [], args := [] }

/-- 'erasurelaw14.LineageFlows': WHATEVER THE INPUT: true; the input reads as it did. -/
def lineageFlowsSpec : ChangeSpec := { name := "lineageFlows", fn := fun _ => fun
  | [d] => { results := [.lit (.bool true)], args := [d] }
  | _ => none }
def lineageFlowsRow : OpenClaim := { program := "ytibjocmpkoepoaagreat", sum := "5ef465ed3adce5eeb7c0a9e33c09222cd0cd565b4bae4974907bbc91fc27d52c", func := "erasure/erasurelaw14.LineageFlows", spec := "lineageFlows", unfollowed := true, recurses := true, plainKeys := false, apart := false }
def LineageFlowsSaid : Prop := lineageFlowsRow.holds Tryz.pinned (OpenSpec.ofChange lineageFlowsSpec)

/-- ITS FALSE NEIGHBOUR: 'it returns false'. Refute it at one input. -/
def lineageFlowsWrong : ChangeSpec := { name := "lineageFlows", fn := fun _ => fun
  | [d] => { results := [.lit (.bool false)], args := [d] }
  | _ => none }
def LineageFlowsWrongFalsely : Prop := lineageFlowsRow.holds Tryz.pinned (OpenSpec.ofChange lineageFlowsWrong)

/-- 'erasurelaw14.LineageUpward': WHATEVER THE INPUT: true; the input reads as it did. -/
def lineageUpwardSpec : ChangeSpec := { name := "lineageUpward", fn := fun _ => fun
  | [d] => { results := [.lit (.bool true)], args := [d] }
  | _ => none }
def lineageUpwardRow : OpenClaim := { program := "ytibjocmpkoepoaagreat", sum := "5ef465ed3adce5eeb7c0a9e33c09222cd0cd565b4bae4974907bbc91fc27d52c", func := "erasure/erasurelaw14.LineageUpward", spec := "lineageUpward", unfollowed := true, recurses := true, plainKeys := false, apart := false }
def LineageUpwardSaid : Prop := lineageUpwardRow.holds Tryz.pinned (OpenSpec.ofChange lineageUpwardSpec)

/-- ITS FALSE NEIGHBOUR: 'it returns false'. Refute it at one input. -/
def lineageUpwardWrong : ChangeSpec := { name := "lineageUpward", fn := fun _ => fun
  | [d] => { results := [.lit (.bool false)], args := [d] }
  | _ => none }
def LineageUpwardWrongFalsely : Prop := lineageUpwardRow.holds Tryz.pinned (OpenSpec.ofChange lineageUpwardWrong)

/-- 'erasurelaw14.LineageMonotone': WHATEVER THE INPUT: true; the input reads as it did. -/
def lineageMonotoneSpec : ChangeSpec := { name := "lineageMonotone", fn := fun _ => fun
  | [d] => { results := [.lit (.bool true)], args := [d] }
  | _ => none }
def lineageMonotoneRow : OpenClaim := { program := "ytibjocmpkoepoaagreat", sum := "5ef465ed3adce5eeb7c0a9e33c09222cd0cd565b4bae4974907bbc91fc27d52c", func := "erasure/erasurelaw14.LineageMonotone", spec := "lineageMonotone", unfollowed := true, recurses := true, plainKeys := false, apart := false }
def LineageMonotoneSaid : Prop := lineageMonotoneRow.holds Tryz.pinned (OpenSpec.ofChange lineageMonotoneSpec)

/-- ITS FALSE NEIGHBOUR: 'it returns false'. Refute it at one input. -/
def lineageMonotoneWrong : ChangeSpec := { name := "lineageMonotone", fn := fun _ => fun
  | [d] => { results := [.lit (.bool false)], args := [d] }
  | _ => none }
def LineageMonotoneWrongFalsely : Prop := lineageMonotoneRow.holds Tryz.pinned (OpenSpec.ofChange lineageMonotoneWrong)

/-- 'erasurelaw14.LineageInverse': WHATEVER THE INPUT: true; the input reads as it did. -/
def lineageInverseSpec : ChangeSpec := { name := "lineageInverse", fn := fun _ => fun
  | [d] => { results := [.lit (.bool true)], args := [d] }
  | _ => none }
def lineageInverseRow : OpenClaim := { program := "ytibjocmpkoepoaagreat", sum := "5ef465ed3adce5eeb7c0a9e33c09222cd0cd565b4bae4974907bbc91fc27d52c", func := "erasure/erasurelaw14.LineageInverse", spec := "lineageInverse", unfollowed := true, recurses := true, plainKeys := false, apart := false }
def LineageInverseSaid : Prop := lineageInverseRow.holds Tryz.pinned (OpenSpec.ofChange lineageInverseSpec)

/-- ITS FALSE NEIGHBOUR: 'it returns false'. Refute it at one input. -/
def lineageInverseWrong : ChangeSpec := { name := "lineageInverse", fn := fun _ => fun
  | [d] => { results := [.lit (.bool false)], args := [d] }
  | _ => none }
def LineageInverseWrongFalsely : Prop := lineageInverseRow.holds Tryz.pinned (OpenSpec.ofChange lineageInverseWrong)

/-- 'erasurelaw22.ImpactGrows': WHATEVER THE INPUT: true; the input reads as it did. -/
def impactGrowsSpec : ChangeSpec := { name := "impactGrows", fn := fun _ => fun
  | [d1, d2, d3] => { results := [.lit (.bool true)], args := [d1, d2, d3] }
  | _ => none }
def impactGrowsRow : OpenClaim := { program := "ytibjocmpkoepoaagreat", sum := "5ef465ed3adce5eeb7c0a9e33c09222cd0cd565b4bae4974907bbc91fc27d52c", func := "erasure/erasurelaw22.ImpactGrows", spec := "impactGrows", unfollowed := true, recurses := true, plainKeys := false, apart := false }
def ImpactGrowsSaid : Prop := impactGrowsRow.holds Tryz.pinned (OpenSpec.ofChange impactGrowsSpec)

/-- ITS FALSE NEIGHBOUR: 'it returns false'. Refute it at one input. -/
def impactGrowsWrong : ChangeSpec := { name := "impactGrows", fn := fun _ => fun
  | [d1, d2, d3] => { results := [.lit (.bool false)], args := [d1, d2, d3] }
  | _ => none }
def ImpactGrowsWrongFalsely : Prop := impactGrowsRow.holds Tryz.pinned (OpenSpec.ofChange impactGrowsWrong)

/-- 'erasurelaw14.LineageLooks': WHATEVER THE INPUT: true; the input reads as it did. -/
def lineageLooksSpec : ChangeSpec := { name := "lineageLooks", fn := fun _ => fun
  | [d1, d2] => { results := [.lit (.bool true)], args := [d1, d2] }
  | _ => none }
def lineageLooksRow : OpenClaim := { program := "ytibjocmpkoepoaagreat", sum := "5ef465ed3adce5eeb7c0a9e33c09222cd0cd565b4bae4974907bbc91fc27d52c", func := "erasure/erasurelaw14.LineageLooks", spec := "lineageLooks", unfollowed := true, recurses := true, plainKeys := false, apart := false }
def LineageLooksSaid : Prop := lineageLooksRow.holds Tryz.pinned (OpenSpec.ofChange lineageLooksSpec)

/-- ITS FALSE NEIGHBOUR: 'it returns false'. Refute it at one input. -/
def lineageLooksWrong : ChangeSpec := { name := "lineageLooks", fn := fun _ => fun
  | [d1, d2] => { results := [.lit (.bool false)], args := [d1, d2] }
  | _ => none }
def LineageLooksWrongFalsely : Prop := lineageLooksRow.holds Tryz.pinned (OpenSpec.ofChange lineageLooksWrong)

/-- 'erasurelaw22.ImpactStores': WHATEVER THE INPUT: true; the input reads as it did. -/
def impactStoresSpec : ChangeSpec := { name := "impactStores", fn := fun _ => fun
  | [d1, d2] => { results := [.lit (.bool true)], args := [d1, d2] }
  | _ => none }
def impactStoresRow : OpenClaim := { program := "ytibjocmpkoepoaagreat", sum := "5ef465ed3adce5eeb7c0a9e33c09222cd0cd565b4bae4974907bbc91fc27d52c", func := "erasure/erasurelaw22.ImpactStores", spec := "impactStores", unfollowed := true, recurses := true, plainKeys := false, apart := false }
def ImpactStoresSaid : Prop := impactStoresRow.holds Tryz.pinned (OpenSpec.ofChange impactStoresSpec)

/-- ITS FALSE NEIGHBOUR: 'it returns false'. Refute it at one input. -/
def impactStoresWrong : ChangeSpec := { name := "impactStores", fn := fun _ => fun
  | [d1, d2] => { results := [.lit (.bool false)], args := [d1, d2] }
  | _ => none }
def ImpactStoresWrongFalsely : Prop := impactStoresRow.holds Tryz.pinned (OpenSpec.ofChange impactStoresWrong)

/-- 'erasurelaw22.ImpactPlaces': WHATEVER THE INPUT: true; the input reads as it did. -/
def impactPlacesSpec : ChangeSpec := { name := "impactPlaces", fn := fun _ => fun
  | [d1, d2, d3] => { results := [.lit (.bool true)], args := [d1, d2, d3] }
  | _ => none }
def impactPlacesRow : OpenClaim := { program := "ytibjocmpkoepoaagreat", sum := "5ef465ed3adce5eeb7c0a9e33c09222cd0cd565b4bae4974907bbc91fc27d52c", func := "erasure/erasurelaw22.ImpactPlaces", spec := "impactPlaces", unfollowed := true, recurses := true, plainKeys := false, apart := false }
def ImpactPlacesSaid : Prop := impactPlacesRow.holds Tryz.pinned (OpenSpec.ofChange impactPlacesSpec)

/-- ITS FALSE NEIGHBOUR: 'it returns false'. Refute it at one input. -/
def impactPlacesWrong : ChangeSpec := { name := "impactPlaces", fn := fun _ => fun
  | [d1, d2, d3] => { results := [.lit (.bool false)], args := [d1, d2, d3] }
  | _ => none }
def ImpactPlacesWrongFalsely : Prop := impactPlacesRow.holds Tryz.pinned (OpenSpec.ofChange impactPlacesWrong)

/-- 'erasurelaw22.ImpactOthers': WHATEVER THE INPUT: true; the input reads as it did. -/
def impactOthersSpec : ChangeSpec := { name := "impactOthers", fn := fun _ => fun
  | [d1, d2] => { results := [.lit (.bool true)], args := [d1, d2] }
  | _ => none }
def impactOthersRow : OpenClaim := { program := "ytibjocmpkoepoaagreat", sum := "5ef465ed3adce5eeb7c0a9e33c09222cd0cd565b4bae4974907bbc91fc27d52c", func := "erasure/erasurelaw22.ImpactOthers", spec := "impactOthers", unfollowed := true, recurses := true, plainKeys := false, apart := false }
def ImpactOthersSaid : Prop := impactOthersRow.holds Tryz.pinned (OpenSpec.ofChange impactOthersSpec)

/-- ITS FALSE NEIGHBOUR: 'it returns false'. Refute it at one input. -/
def impactOthersWrong : ChangeSpec := { name := "impactOthers", fn := fun _ => fun
  | [d1, d2] => { results := [.lit (.bool false)], args := [d1, d2] }
  | _ => none }
def ImpactOthersWrongFalsely : Prop := impactOthersRow.holds Tryz.pinned (OpenSpec.ofChange impactOthersWrong)

/- THE SECOND FORM. 'bulk': how many values and letters a reading holds, each counted each time it is reached (what is shared counts as often as it is met; a slice's spare places count too). A statement '..UptoSaid' is the law's where the arguments, and the package variables that the reading takes, are together of bulk at most 1048576: NARROWER than '..Said'. Prove '..Said' where nothing that the law and all that it calls make is longer than what came in: it says more and counts as full. Else prove '..UptoSaid'. A law counts once. -/
mutual
def uptoBulk {H : Type} : DataW H → Nat
  | .lit (.string bytes) => bytes.length + 1
  | .lit _ => 1
  | .nil => 1
  | .ptr d => uptoBulk d + 1
  | .slice elems spare => uptoBulkAll elems + uptoBulkAll spare + 1
  | .agg parts => uptoBulkAll parts + 1
  | .iface _ d => uptoBulk d + 1
  | .map entries => uptoBulkEntries entries + 1
  | .held _ => 1
def uptoBulkAll {H : Type} : List (DataW H) → Nat
  | [] => 0
  | d :: r => uptoBulk d + uptoBulkAll r
def uptoBulkEntries {H : Type} : List (Lit × DataW H) → Nat
  | [] => 0
  | x :: r => uptoBulkEntry x + uptoBulkEntries r
def uptoBulkEntry {H : Type} : Lit × DataW H → Nat
  | (.string bytes, d) => bytes.length + uptoBulk d + 1
  | (_, d) => uptoBulk d + 1
 end
def uptoSmall : (H : Type) → List (DataW H) → Bool := fun _ ds => decide (uptoBulkAll ds ≤ 1048576)
def OpenSpec.upto (s : _root_.Go.ChangeSpec) : _root_.Go.OpenSpec := { _root_.Go.OpenSpec.ofChange s with cond := some uptoSmall }

/-- 'erasurelaw14.LineageFlows', WHERE WHAT IT READS IS OF BULK AT MOST 1048576: true; the input reads as it did. -/
def lineageFlowsUptoRow : OpenClaim := { program := "ytibjocmpkoepoaagreat", sum := "5ef465ed3adce5eeb7c0a9e33c09222cd0cd565b4bae4974907bbc91fc27d52c", func := "erasure/erasurelaw14.LineageFlows", spec := "lineageFlows", unfollowed := true, recurses := true, plainKeys := false, apart := false, narrowed := true }
def LineageFlowsUptoSaid : Prop := lineageFlowsUptoRow.holds Tryz.pinned (OpenSpec.upto lineageFlowsSpec)

/-- 'erasurelaw14.LineageUpward', WHERE WHAT IT READS IS OF BULK AT MOST 1048576: true; the input reads as it did. -/
def lineageUpwardUptoRow : OpenClaim := { program := "ytibjocmpkoepoaagreat", sum := "5ef465ed3adce5eeb7c0a9e33c09222cd0cd565b4bae4974907bbc91fc27d52c", func := "erasure/erasurelaw14.LineageUpward", spec := "lineageUpward", unfollowed := true, recurses := true, plainKeys := false, apart := false, narrowed := true }
def LineageUpwardUptoSaid : Prop := lineageUpwardUptoRow.holds Tryz.pinned (OpenSpec.upto lineageUpwardSpec)

/-- 'erasurelaw14.LineageMonotone', WHERE WHAT IT READS IS OF BULK AT MOST 1048576: true; the input reads as it did. -/
def lineageMonotoneUptoRow : OpenClaim := { program := "ytibjocmpkoepoaagreat", sum := "5ef465ed3adce5eeb7c0a9e33c09222cd0cd565b4bae4974907bbc91fc27d52c", func := "erasure/erasurelaw14.LineageMonotone", spec := "lineageMonotone", unfollowed := true, recurses := true, plainKeys := false, apart := false, narrowed := true }
def LineageMonotoneUptoSaid : Prop := lineageMonotoneUptoRow.holds Tryz.pinned (OpenSpec.upto lineageMonotoneSpec)

/-- 'erasurelaw14.LineageInverse', WHERE WHAT IT READS IS OF BULK AT MOST 1048576: true; the input reads as it did. -/
def lineageInverseUptoRow : OpenClaim := { program := "ytibjocmpkoepoaagreat", sum := "5ef465ed3adce5eeb7c0a9e33c09222cd0cd565b4bae4974907bbc91fc27d52c", func := "erasure/erasurelaw14.LineageInverse", spec := "lineageInverse", unfollowed := true, recurses := true, plainKeys := false, apart := false, narrowed := true }
def LineageInverseUptoSaid : Prop := lineageInverseUptoRow.holds Tryz.pinned (OpenSpec.upto lineageInverseSpec)

/-- 'erasurelaw22.ImpactGrows', WHERE WHAT IT READS IS OF BULK AT MOST 1048576: true; the input reads as it did. -/
def impactGrowsUptoRow : OpenClaim := { program := "ytibjocmpkoepoaagreat", sum := "5ef465ed3adce5eeb7c0a9e33c09222cd0cd565b4bae4974907bbc91fc27d52c", func := "erasure/erasurelaw22.ImpactGrows", spec := "impactGrows", unfollowed := true, recurses := true, plainKeys := false, apart := false, narrowed := true }
def ImpactGrowsUptoSaid : Prop := impactGrowsUptoRow.holds Tryz.pinned (OpenSpec.upto impactGrowsSpec)

/-- 'erasurelaw14.LineageLooks', WHERE WHAT IT READS IS OF BULK AT MOST 1048576: true; the input reads as it did. -/
def lineageLooksUptoRow : OpenClaim := { program := "ytibjocmpkoepoaagreat", sum := "5ef465ed3adce5eeb7c0a9e33c09222cd0cd565b4bae4974907bbc91fc27d52c", func := "erasure/erasurelaw14.LineageLooks", spec := "lineageLooks", unfollowed := true, recurses := true, plainKeys := false, apart := false, narrowed := true }
def LineageLooksUptoSaid : Prop := lineageLooksUptoRow.holds Tryz.pinned (OpenSpec.upto lineageLooksSpec)

/-- 'erasurelaw22.ImpactStores', WHERE WHAT IT READS IS OF BULK AT MOST 1048576: true; the input reads as it did. -/
def impactStoresUptoRow : OpenClaim := { program := "ytibjocmpkoepoaagreat", sum := "5ef465ed3adce5eeb7c0a9e33c09222cd0cd565b4bae4974907bbc91fc27d52c", func := "erasure/erasurelaw22.ImpactStores", spec := "impactStores", unfollowed := true, recurses := true, plainKeys := false, apart := false, narrowed := true }
def ImpactStoresUptoSaid : Prop := impactStoresUptoRow.holds Tryz.pinned (OpenSpec.upto impactStoresSpec)

/-- 'erasurelaw22.ImpactPlaces', WHERE WHAT IT READS IS OF BULK AT MOST 1048576: true; the input reads as it did. -/
def impactPlacesUptoRow : OpenClaim := { program := "ytibjocmpkoepoaagreat", sum := "5ef465ed3adce5eeb7c0a9e33c09222cd0cd565b4bae4974907bbc91fc27d52c", func := "erasure/erasurelaw22.ImpactPlaces", spec := "impactPlaces", unfollowed := true, recurses := true, plainKeys := false, apart := false, narrowed := true }
def ImpactPlacesUptoSaid : Prop := impactPlacesUptoRow.holds Tryz.pinned (OpenSpec.upto impactPlacesSpec)

/-- 'erasurelaw22.ImpactOthers', WHERE WHAT IT READS IS OF BULK AT MOST 1048576: true; the input reads as it did. -/
def impactOthersUptoRow : OpenClaim := { program := "ytibjocmpkoepoaagreat", sum := "5ef465ed3adce5eeb7c0a9e33c09222cd0cd565b4bae4974907bbc91fc27d52c", func := "erasure/erasurelaw22.ImpactOthers", spec := "impactOthers", unfollowed := true, recurses := true, plainKeys := false, apart := false, narrowed := true }
def ImpactOthersUptoSaid : Prop := impactOthersUptoRow.holds Tryz.pinned (OpenSpec.upto impactOthersSpec)

end Rows
end Go.Proofs.YtibjocmpkoepoaaGreat
