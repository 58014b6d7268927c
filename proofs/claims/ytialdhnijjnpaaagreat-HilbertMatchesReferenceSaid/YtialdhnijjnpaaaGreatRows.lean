/-
  No cell of these rows narrows 'for every input' (looked for: loops, veiled, ifaces, maps, wideKeys, modest, calm, conditions, laid).
  DERIVED. THE GIVEN ROWS OF THIS SEAT. 8 by the template 'for every input the law returns true; each argument reads behind the call as it read before'; 0 by the template 'total and deterministic' (their statements: YtialdhnijjnpaaaGreatTotals.lean).
  GIVEN WITH THE SEED: the statements are not yours to turn. If you find one false, say at which input.
  Laid BY PROGRAM, IN A SANDBOX (cutbox-rows.mjs): the forced cells as the released guide's own fill.sh prints them over the translation 987e5ed81868f540… (all of the seat's roots in one cut). By AI agents, Wed Nov 11 2026. No macro, syntax, notation, axiom, sorry.
-/
import Derived.Test.YtialdhnijjnpaaaGreatChecked
import GoSem.Claim
import GoSem.ClaimJoined
import GoSem.ClaimMapViews
import Derived.JoinedTies
import Derived.KernelRfl
namespace Go.Proofs.YtialdhnijjnpaaaGreat
/- THE CELL 'sum', in the pinned program and in every row, IS THE sha256 OF THE DUMP (.gsa) THAT YtialdhnijjnpaaaGreatProg.lean LOADS. Nothing in Lean hashes anything: it is a label: what it is worth is what the hold of that sum in a sandbox is worth. -/
noncomputable def Tryz.pinned : Pinned := { name := "ytialdhnijjnpaaagreat", sum := "987e5ed81868f540f0197a59c7cf08bc46b95882feb4420bc88558d877da13be", checked := Tryz.checked }
namespace Rows
def none {H : Type} : Left H := { results := [], args := [] }

/-- 'eliminantlaw18.HilbertMatchesReference': WHATEVER THE INPUT: true; the input reads as it did. -/
def hilbertMatchesReferenceSpec : ChangeSpec := { name := "hilbertMatchesReference", fn := fun _ => fun
  | [d1, d2] => { results := [.lit (.bool true)], args := [d1, d2] }
  | _ => none }
def hilbertMatchesReferenceRow : OpenClaim := { program := "ytialdhnijjnpaaagreat", sum := "987e5ed81868f540f0197a59c7cf08bc46b95882feb4420bc88558d877da13be", func := "eliminant/eliminantlaw18.HilbertMatchesReference", spec := "hilbertMatchesReference", unfollowed := true, recurses := true, plainKeys := false, apart := false }
def HilbertMatchesReferenceSaid : Prop := hilbertMatchesReferenceRow.holds Tryz.pinned (OpenSpec.ofChange hilbertMatchesReferenceSpec)

/-- ITS FALSE NEIGHBOUR: 'it returns false'. Refute it at one input. -/
def hilbertMatchesReferenceWrong : ChangeSpec := { name := "hilbertMatchesReference", fn := fun _ => fun
  | [d1, d2] => { results := [.lit (.bool false)], args := [d1, d2] }
  | _ => none }
def HilbertMatchesReferenceWrongFalsely : Prop := hilbertMatchesReferenceRow.holds Tryz.pinned (OpenSpec.ofChange hilbertMatchesReferenceWrong)

/-- 'eliminantlaw18.HilbertCounts': WHATEVER THE INPUT: true; the input reads as it did. -/
def hilbertCountsSpec : ChangeSpec := { name := "hilbertCounts", fn := fun _ => fun
  | [d1, d2] => { results := [.lit (.bool true)], args := [d1, d2] }
  | _ => none }
def hilbertCountsRow : OpenClaim := { program := "ytialdhnijjnpaaagreat", sum := "987e5ed81868f540f0197a59c7cf08bc46b95882feb4420bc88558d877da13be", func := "eliminant/eliminantlaw18.HilbertCounts", spec := "hilbertCounts", unfollowed := true, recurses := true, plainKeys := false, apart := false }
def HilbertCountsSaid : Prop := hilbertCountsRow.holds Tryz.pinned (OpenSpec.ofChange hilbertCountsSpec)

/-- ITS FALSE NEIGHBOUR: 'it returns false'. Refute it at one input. -/
def hilbertCountsWrong : ChangeSpec := { name := "hilbertCounts", fn := fun _ => fun
  | [d1, d2] => { results := [.lit (.bool false)], args := [d1, d2] }
  | _ => none }
def HilbertCountsWrongFalsely : Prop := hilbertCountsRow.holds Tryz.pinned (OpenSpec.ofChange hilbertCountsWrong)

/-- 'eliminantlaw18.HilbertSequences': WHATEVER THE INPUT: true; the input reads as it did. -/
def hilbertSequencesSpec : ChangeSpec := { name := "hilbertSequences", fn := fun _ => fun
  | [d1, d2] => { results := [.lit (.bool true)], args := [d1, d2] }
  | _ => none }
def hilbertSequencesRow : OpenClaim := { program := "ytialdhnijjnpaaagreat", sum := "987e5ed81868f540f0197a59c7cf08bc46b95882feb4420bc88558d877da13be", func := "eliminant/eliminantlaw18.HilbertSequences", spec := "hilbertSequences", unfollowed := true, recurses := true, plainKeys := false, apart := false }
def HilbertSequencesSaid : Prop := hilbertSequencesRow.holds Tryz.pinned (OpenSpec.ofChange hilbertSequencesSpec)

/-- ITS FALSE NEIGHBOUR: 'it returns false'. Refute it at one input. -/
def hilbertSequencesWrong : ChangeSpec := { name := "hilbertSequences", fn := fun _ => fun
  | [d1, d2] => { results := [.lit (.bool false)], args := [d1, d2] }
  | _ => none }
def HilbertSequencesWrongFalsely : Prop := hilbertSequencesRow.holds Tryz.pinned (OpenSpec.ofChange hilbertSequencesWrong)

/-- 'eliminantlaw18.HilbertDimensions': WHATEVER THE INPUT: true; the input reads as it did. -/
def hilbertDimensionsSpec : ChangeSpec := { name := "hilbertDimensions", fn := fun _ => fun
  | [d] => { results := [.lit (.bool true)], args := [d] }
  | _ => none }
def hilbertDimensionsRow : OpenClaim := { program := "ytialdhnijjnpaaagreat", sum := "987e5ed81868f540f0197a59c7cf08bc46b95882feb4420bc88558d877da13be", func := "eliminant/eliminantlaw18.HilbertDimensions", spec := "hilbertDimensions", unfollowed := true, recurses := true, plainKeys := false, apart := false }
def HilbertDimensionsSaid : Prop := hilbertDimensionsRow.holds Tryz.pinned (OpenSpec.ofChange hilbertDimensionsSpec)

/-- ITS FALSE NEIGHBOUR: 'it returns false'. Refute it at one input. -/
def hilbertDimensionsWrong : ChangeSpec := { name := "hilbertDimensions", fn := fun _ => fun
  | [d] => { results := [.lit (.bool false)], args := [d] }
  | _ => none }
def HilbertDimensionsWrongFalsely : Prop := hilbertDimensionsRow.holds Tryz.pinned (OpenSpec.ofChange hilbertDimensionsWrong)

/-- 'eliminantlaw18.HilbertPolynomials': WHATEVER THE INPUT: true; the input reads as it did. -/
def hilbertPolynomialsSpec : ChangeSpec := { name := "hilbertPolynomials", fn := fun _ => fun
  | [d1, d2] => { results := [.lit (.bool true)], args := [d1, d2] }
  | _ => none }
def hilbertPolynomialsRow : OpenClaim := { program := "ytialdhnijjnpaaagreat", sum := "987e5ed81868f540f0197a59c7cf08bc46b95882feb4420bc88558d877da13be", func := "eliminant/eliminantlaw18.HilbertPolynomials", spec := "hilbertPolynomials", unfollowed := true, recurses := true, plainKeys := false, apart := false }
def HilbertPolynomialsSaid : Prop := hilbertPolynomialsRow.holds Tryz.pinned (OpenSpec.ofChange hilbertPolynomialsSpec)

/-- ITS FALSE NEIGHBOUR: 'it returns false'. Refute it at one input. -/
def hilbertPolynomialsWrong : ChangeSpec := { name := "hilbertPolynomials", fn := fun _ => fun
  | [d1, d2] => { results := [.lit (.bool false)], args := [d1, d2] }
  | _ => none }
def HilbertPolynomialsWrongFalsely : Prop := hilbertPolynomialsRow.holds Tryz.pinned (OpenSpec.ofChange hilbertPolynomialsWrong)

/-- 'eliminantlaw18.HilbertDegrees': WHATEVER THE INPUT: true; the input reads as it did. -/
def hilbertDegreesSpec : ChangeSpec := { name := "hilbertDegrees", fn := fun _ => fun
  | [d1, d2] => { results := [.lit (.bool true)], args := [d1, d2] }
  | _ => none }
def hilbertDegreesRow : OpenClaim := { program := "ytialdhnijjnpaaagreat", sum := "987e5ed81868f540f0197a59c7cf08bc46b95882feb4420bc88558d877da13be", func := "eliminant/eliminantlaw18.HilbertDegrees", spec := "hilbertDegrees", unfollowed := true, recurses := true, plainKeys := false, apart := false }
def HilbertDegreesSaid : Prop := hilbertDegreesRow.holds Tryz.pinned (OpenSpec.ofChange hilbertDegreesSpec)

/-- ITS FALSE NEIGHBOUR: 'it returns false'. Refute it at one input. -/
def hilbertDegreesWrong : ChangeSpec := { name := "hilbertDegrees", fn := fun _ => fun
  | [d1, d2] => { results := [.lit (.bool false)], args := [d1, d2] }
  | _ => none }
def HilbertDegreesWrongFalsely : Prop := hilbertDegreesRow.holds Tryz.pinned (OpenSpec.ofChange hilbertDegreesWrong)

/-- 'eliminantlaw18.HilbertStandards': WHATEVER THE INPUT: true; the input reads as it did. -/
def hilbertStandardsSpec : ChangeSpec := { name := "hilbertStandards", fn := fun _ => fun
  | [d1, d2] => { results := [.lit (.bool true)], args := [d1, d2] }
  | _ => none }
def hilbertStandardsRow : OpenClaim := { program := "ytialdhnijjnpaaagreat", sum := "987e5ed81868f540f0197a59c7cf08bc46b95882feb4420bc88558d877da13be", func := "eliminant/eliminantlaw18.HilbertStandards", spec := "hilbertStandards", unfollowed := true, recurses := true, plainKeys := false, apart := false }
def HilbertStandardsSaid : Prop := hilbertStandardsRow.holds Tryz.pinned (OpenSpec.ofChange hilbertStandardsSpec)

/-- ITS FALSE NEIGHBOUR: 'it returns false'. Refute it at one input. -/
def hilbertStandardsWrong : ChangeSpec := { name := "hilbertStandards", fn := fun _ => fun
  | [d1, d2] => { results := [.lit (.bool false)], args := [d1, d2] }
  | _ => none }
def HilbertStandardsWrongFalsely : Prop := hilbertStandardsRow.holds Tryz.pinned (OpenSpec.ofChange hilbertStandardsWrong)

/-- 'eliminantlaw18.HilbertErrors': WHATEVER THE INPUT: true; the input reads as it did. -/
def hilbertErrorsSpec : ChangeSpec := { name := "hilbertErrors", fn := fun _ => fun
  | [d1, d2, d3] => { results := [.lit (.bool true)], args := [d1, d2, d3] }
  | _ => none }
def hilbertErrorsRow : OpenClaim := { program := "ytialdhnijjnpaaagreat", sum := "987e5ed81868f540f0197a59c7cf08bc46b95882feb4420bc88558d877da13be", func := "eliminant/eliminantlaw18.HilbertErrors", spec := "hilbertErrors", unfollowed := true, recurses := true, plainKeys := false, apart := false }
def HilbertErrorsSaid : Prop := hilbertErrorsRow.holds Tryz.pinned (OpenSpec.ofChange hilbertErrorsSpec)

/-- ITS FALSE NEIGHBOUR: 'it returns false'. Refute it at one input. -/
def hilbertErrorsWrong : ChangeSpec := { name := "hilbertErrors", fn := fun _ => fun
  | [d1, d2, d3] => { results := [.lit (.bool false)], args := [d1, d2, d3] }
  | _ => none }
def HilbertErrorsWrongFalsely : Prop := hilbertErrorsRow.holds Tryz.pinned (OpenSpec.ofChange hilbertErrorsWrong)

/- THE SECOND FORM. 'bulk': how many values and letters a reading holds, each counted each time it is reached (what is shared counts as often as it is met; a slice's spare places count too). A statement '..UptoSaid' is the law's where the arguments, and the package variables that the reading takes, are together of bulk at most 1048576: NARROWER than '..Said'. Prove '..Said' where nothing that the law and all that it calls make is longer than what came in: it says more and counts as full. Else prove '..UptoSaid'. A law counts once. -/
mutual
def uptoBulk {H : Type} : DataW H → Nat
  | .lit (.string bytes) => bytes.length + 1
  | .lit _ => 1
  | .nil => 1
  | .ptr d => uptoBulk d + 1
  | .slice elems spare => uptoBulkAll elems + uptoBulkAll spare + 1
  | .agg parts => uptoBulkAll parts + 1
  | .iface _ d => uptoBulk d + 1
  | .map entries => uptoBulkEntries entries + 1
  | .held _ => 1
def uptoBulkAll {H : Type} : List (DataW H) → Nat
  | [] => 0
  | d :: r => uptoBulk d + uptoBulkAll r
def uptoBulkEntries {H : Type} : List (Lit × DataW H) → Nat
  | [] => 0
  | x :: r => uptoBulkEntry x + uptoBulkEntries r
def uptoBulkEntry {H : Type} : Lit × DataW H → Nat
  | (.string bytes, d) => bytes.length + uptoBulk d + 1
  | (_, d) => uptoBulk d + 1
 end
def uptoSmall : (H : Type) → List (DataW H) → Bool := fun _ ds => decide (uptoBulkAll ds ≤ 1048576)
def OpenSpec.upto (s : _root_.Go.ChangeSpec) : _root_.Go.OpenSpec := { _root_.Go.OpenSpec.ofChange s with cond := some uptoSmall }

/-- 'eliminantlaw18.HilbertMatchesReference', WHERE WHAT IT READS IS OF BULK AT MOST 1048576: true; the input reads as it did. -/
def hilbertMatchesReferenceUptoRow : OpenClaim := { program := "ytialdhnijjnpaaagreat", sum := "987e5ed81868f540f0197a59c7cf08bc46b95882feb4420bc88558d877da13be", func := "eliminant/eliminantlaw18.HilbertMatchesReference", spec := "hilbertMatchesReference", unfollowed := true, recurses := true, plainKeys := false, apart := false, narrowed := true }
def HilbertMatchesReferenceUptoSaid : Prop := hilbertMatchesReferenceUptoRow.holds Tryz.pinned (OpenSpec.upto hilbertMatchesReferenceSpec)

/-- 'eliminantlaw18.HilbertCounts', WHERE WHAT IT READS IS OF BULK AT MOST 1048576: true; the input reads as it did. -/
def hilbertCountsUptoRow : OpenClaim := { program := "ytialdhnijjnpaaagreat", sum := "987e5ed81868f540f0197a59c7cf08bc46b95882feb4420bc88558d877da13be", func := "eliminant/eliminantlaw18.HilbertCounts", spec := "hilbertCounts", unfollowed := true, recurses := true, plainKeys := false, apart := false, narrowed := true }
def HilbertCountsUptoSaid : Prop := hilbertCountsUptoRow.holds Tryz.pinned (OpenSpec.upto hilbertCountsSpec)

/-- 'eliminantlaw18.HilbertSequences', WHERE WHAT IT READS IS OF BULK AT MOST 1048576: true; the input reads as it did. -/
def hilbertSequencesUptoRow : OpenClaim := { program := "ytialdhnijjnpaaagreat", sum := "987e5ed81868f540f0197a59c7cf08bc46b95882feb4420bc88558d877da13be", func := "eliminant/eliminantlaw18.HilbertSequences", spec := "hilbertSequences", unfollowed := true, recurses := true, plainKeys := false, apart := false, narrowed := true }
def HilbertSequencesUptoSaid : Prop := hilbertSequencesUptoRow.holds Tryz.pinned (OpenSpec.upto hilbertSequencesSpec)

/-- 'eliminantlaw18.HilbertDimensions', WHERE WHAT IT READS IS OF BULK AT MOST 1048576: true; the input reads as it did. -/
def hilbertDimensionsUptoRow : OpenClaim := { program := "ytialdhnijjnpaaagreat", sum := "987e5ed81868f540f0197a59c7cf08bc46b95882feb4420bc88558d877da13be", func := "eliminant/eliminantlaw18.HilbertDimensions", spec := "hilbertDimensions", unfollowed := true, recurses := true, plainKeys := false, apart := false, narrowed := true }
def HilbertDimensionsUptoSaid : Prop := hilbertDimensionsUptoRow.holds Tryz.pinned (OpenSpec.upto hilbertDimensionsSpec)

/-- 'eliminantlaw18.HilbertPolynomials', WHERE WHAT IT READS IS OF BULK AT MOST 1048576: true; the input reads as it did. -/
def hilbertPolynomialsUptoRow : OpenClaim := { program := "ytialdhnijjnpaaagreat", sum := "987e5ed81868f540f0197a59c7cf08bc46b95882feb4420bc88558d877da13be", func := "eliminant/eliminantlaw18.HilbertPolynomials", spec := "hilbertPolynomials", unfollowed := true, recurses := true, plainKeys := false, apart := false, narrowed := true }
def HilbertPolynomialsUptoSaid : Prop := hilbertPolynomialsUptoRow.holds Tryz.pinned (OpenSpec.upto hilbertPolynomialsSpec)

/-- 'eliminantlaw18.HilbertDegrees', WHERE WHAT IT READS IS OF BULK AT MOST 1048576: true; the input reads as it did. -/
def hilbertDegreesUptoRow : OpenClaim := { program := "ytialdhnijjnpaaagreat", sum := "987e5ed81868f540f0197a59c7cf08bc46b95882feb4420bc88558d877da13be", func := "eliminant/eliminantlaw18.HilbertDegrees", spec := "hilbertDegrees", unfollowed := true, recurses := true, plainKeys := false, apart := false, narrowed := true }
def HilbertDegreesUptoSaid : Prop := hilbertDegreesUptoRow.holds Tryz.pinned (OpenSpec.upto hilbertDegreesSpec)

/-- 'eliminantlaw18.HilbertStandards', WHERE WHAT IT READS IS OF BULK AT MOST 1048576: true; the input reads as it did. -/
def hilbertStandardsUptoRow : OpenClaim := { program := "ytialdhnijjnpaaagreat", sum := "987e5ed81868f540f0197a59c7cf08bc46b95882feb4420bc88558d877da13be", func := "eliminant/eliminantlaw18.HilbertStandards", spec := "hilbertStandards", unfollowed := true, recurses := true, plainKeys := false, apart := false, narrowed := true }
def HilbertStandardsUptoSaid : Prop := hilbertStandardsUptoRow.holds Tryz.pinned (OpenSpec.upto hilbertStandardsSpec)

/-- 'eliminantlaw18.HilbertErrors', WHERE WHAT IT READS IS OF BULK AT MOST 1048576: true; the input reads as it did. -/
def hilbertErrorsUptoRow : OpenClaim := { program := "ytialdhnijjnpaaagreat", sum := "987e5ed81868f540f0197a59c7cf08bc46b95882feb4420bc88558d877da13be", func := "eliminant/eliminantlaw18.HilbertErrors", spec := "hilbertErrors", unfollowed := true, recurses := true, plainKeys := false, apart := false, narrowed := true }
def HilbertErrorsUptoSaid : Prop := hilbertErrorsUptoRow.holds Tryz.pinned (OpenSpec.upto hilbertErrorsSpec)

end Rows
end Go.Proofs.YtialdhnijjnpaaaGreat
