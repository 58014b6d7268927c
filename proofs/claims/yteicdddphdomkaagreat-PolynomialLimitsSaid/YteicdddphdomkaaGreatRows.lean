/-
  No cell of these rows narrows 'for every input' (looked for: loops, veiled, ifaces, maps, wideKeys, modest, calm, conditions, laid).
  DERIVED. THE GIVEN ROWS OF THIS SEAT. 10 by the template 'for every input the law returns true; each argument reads behind the call as it read before'; 0 by the template 'total and deterministic' (their statements: YteicdddphdomkaaGreatTotals.lean).
  GIVEN WITH THE SEED: the statements are not yours to turn. If you find one false, say at which input.
  Laid BY PROGRAM, IN A SANDBOX (cutbox-rows.mjs): the forced cells as the released guide's own fill.sh prints them over the translation c5ce5a93490e67b4… (all of the seat's roots in one cut). By AI agents, Wed Nov 11 2026. No macro, syntax, notation, axiom, sorry.
-/
import Derived.Test.YteicdddphdomkaaGreatChecked
import GoSem.Claim
import GoSem.ClaimJoined
import GoSem.ClaimMapViews
import Derived.JoinedTies
import Derived.KernelRfl
namespace Go.Proofs.YteicdddphdomkaaGreat
/- THE CELL 'sum', in the pinned program and in every row, IS THE sha256 OF THE DUMP (.gsa) THAT YteicdddphdomkaaGreatProg.lean LOADS. Nothing in Lean hashes anything: it is a label: what it is worth is what the hold of that sum in a sandbox is worth. -/
noncomputable def Tryz.pinned : Pinned := { name := "yteicdddphdomkaagreat", sum := "c5ce5a93490e67b4f2f4d20d26f493d646e6091c2e3cb6636b18f3be591c7484", checked := Tryz.checked }
namespace Rows
def none {H : Type} : Left H := { results := [], args := [] }

/-- 'eliminantlaw06.PolynomialValid': WHATEVER THE INPUT: true; the input reads as it did. -/
def polynomialValidSpec : ChangeSpec := { name := "polynomialValid", fn := fun _ => fun
  | [d] => { results := [.lit (.bool true)], args := [d] }
  | _ => none }
def polynomialValidRow : OpenClaim := { program := "yteicdddphdomkaagreat", sum := "c5ce5a93490e67b4f2f4d20d26f493d646e6091c2e3cb6636b18f3be591c7484", func := "eliminant/eliminantlaw06.PolynomialValid", spec := "polynomialValid", unfollowed := true, recurses := true, plainKeys := false, apart := false }
def PolynomialValidSaid : Prop := polynomialValidRow.holds Tryz.pinned (OpenSpec.ofChange polynomialValidSpec)

/-- ITS FALSE NEIGHBOUR: 'it returns false'. Refute it at one input. -/
def polynomialValidWrong : ChangeSpec := { name := "polynomialValid", fn := fun _ => fun
  | [d] => { results := [.lit (.bool false)], args := [d] }
  | _ => none }
def PolynomialValidWrongFalsely : Prop := polynomialValidRow.holds Tryz.pinned (OpenSpec.ofChange polynomialValidWrong)

/-- 'eliminantlaw06.PolynomialRing': WHATEVER THE INPUT: true; the input reads as it did. -/
def polynomialRingSpec : ChangeSpec := { name := "polynomialRing", fn := fun _ => fun
  | [d1, d2, d3] => { results := [.lit (.bool true)], args := [d1, d2, d3] }
  | _ => none }
def polynomialRingRow : OpenClaim := { program := "yteicdddphdomkaagreat", sum := "c5ce5a93490e67b4f2f4d20d26f493d646e6091c2e3cb6636b18f3be591c7484", func := "eliminant/eliminantlaw06.PolynomialRing", spec := "polynomialRing", unfollowed := true, recurses := true, plainKeys := false, apart := false }
def PolynomialRingSaid : Prop := polynomialRingRow.holds Tryz.pinned (OpenSpec.ofChange polynomialRingSpec)

/-- ITS FALSE NEIGHBOUR: 'it returns false'. Refute it at one input. -/
def polynomialRingWrong : ChangeSpec := { name := "polynomialRing", fn := fun _ => fun
  | [d1, d2, d3] => { results := [.lit (.bool false)], args := [d1, d2, d3] }
  | _ => none }
def PolynomialRingWrongFalsely : Prop := polynomialRingRow.holds Tryz.pinned (OpenSpec.ofChange polynomialRingWrong)

/-- 'eliminantlaw06.PolynomialDerives': WHATEVER THE INPUT: true; the input reads as it did. -/
def polynomialDerivesSpec : ChangeSpec := { name := "polynomialDerives", fn := fun _ => fun
  | [d1, d2, d3] => { results := [.lit (.bool true)], args := [d1, d2, d3] }
  | _ => none }
def polynomialDerivesRow : OpenClaim := { program := "yteicdddphdomkaagreat", sum := "c5ce5a93490e67b4f2f4d20d26f493d646e6091c2e3cb6636b18f3be591c7484", func := "eliminant/eliminantlaw06.PolynomialDerives", spec := "polynomialDerives", unfollowed := true, recurses := true, plainKeys := false, apart := false }
def PolynomialDerivesSaid : Prop := polynomialDerivesRow.holds Tryz.pinned (OpenSpec.ofChange polynomialDerivesSpec)

/-- ITS FALSE NEIGHBOUR: 'it returns false'. Refute it at one input. -/
def polynomialDerivesWrong : ChangeSpec := { name := "polynomialDerives", fn := fun _ => fun
  | [d1, d2, d3] => { results := [.lit (.bool false)], args := [d1, d2, d3] }
  | _ => none }
def PolynomialDerivesWrongFalsely : Prop := polynomialDerivesRow.holds Tryz.pinned (OpenSpec.ofChange polynomialDerivesWrong)

/-- 'eliminantlaw06.PolynomialValues': WHATEVER THE INPUT: true; the input reads as it did. -/
def polynomialValuesSpec : ChangeSpec := { name := "polynomialValues", fn := fun _ => fun
  | [d1, d2, d3] => { results := [.lit (.bool true)], args := [d1, d2, d3] }
  | _ => none }
def polynomialValuesRow : OpenClaim := { program := "yteicdddphdomkaagreat", sum := "c5ce5a93490e67b4f2f4d20d26f493d646e6091c2e3cb6636b18f3be591c7484", func := "eliminant/eliminantlaw06.PolynomialValues", spec := "polynomialValues", unfollowed := true, recurses := true, plainKeys := false, apart := false }
def PolynomialValuesSaid : Prop := polynomialValuesRow.holds Tryz.pinned (OpenSpec.ofChange polynomialValuesSpec)

/-- ITS FALSE NEIGHBOUR: 'it returns false'. Refute it at one input. -/
def polynomialValuesWrong : ChangeSpec := { name := "polynomialValues", fn := fun _ => fun
  | [d1, d2, d3] => { results := [.lit (.bool false)], args := [d1, d2, d3] }
  | _ => none }
def PolynomialValuesWrongFalsely : Prop := polynomialValuesRow.holds Tryz.pinned (OpenSpec.ofChange polynomialValuesWrong)

/-- 'eliminantlaw06.PolynomialLeads': WHATEVER THE INPUT: true; the input reads as it did. -/
def polynomialLeadsSpec : ChangeSpec := { name := "polynomialLeads", fn := fun _ => fun
  | [d1, d2, d3] => { results := [.lit (.bool true)], args := [d1, d2, d3] }
  | _ => none }
def polynomialLeadsRow : OpenClaim := { program := "yteicdddphdomkaagreat", sum := "c5ce5a93490e67b4f2f4d20d26f493d646e6091c2e3cb6636b18f3be591c7484", func := "eliminant/eliminantlaw06.PolynomialLeads", spec := "polynomialLeads", unfollowed := true, recurses := true, plainKeys := false, apart := false }
def PolynomialLeadsSaid : Prop := polynomialLeadsRow.holds Tryz.pinned (OpenSpec.ofChange polynomialLeadsSpec)

/-- ITS FALSE NEIGHBOUR: 'it returns false'. Refute it at one input. -/
def polynomialLeadsWrong : ChangeSpec := { name := "polynomialLeads", fn := fun _ => fun
  | [d1, d2, d3] => { results := [.lit (.bool false)], args := [d1, d2, d3] }
  | _ => none }
def PolynomialLeadsWrongFalsely : Prop := polynomialLeadsRow.holds Tryz.pinned (OpenSpec.ofChange polynomialLeadsWrong)

/-- 'eliminantlaw06.PolynomialSorts': WHATEVER THE INPUT: true; the input reads as it did. -/
def polynomialSortsSpec : ChangeSpec := { name := "polynomialSorts", fn := fun _ => fun
  | [d1, d2, d3] => { results := [.lit (.bool true)], args := [d1, d2, d3] }
  | _ => none }
def polynomialSortsRow : OpenClaim := { program := "yteicdddphdomkaagreat", sum := "c5ce5a93490e67b4f2f4d20d26f493d646e6091c2e3cb6636b18f3be591c7484", func := "eliminant/eliminantlaw06.PolynomialSorts", spec := "polynomialSorts", unfollowed := true, recurses := true, plainKeys := false, apart := false }
def PolynomialSortsSaid : Prop := polynomialSortsRow.holds Tryz.pinned (OpenSpec.ofChange polynomialSortsSpec)

/-- ITS FALSE NEIGHBOUR: 'it returns false'. Refute it at one input. -/
def polynomialSortsWrong : ChangeSpec := { name := "polynomialSorts", fn := fun _ => fun
  | [d1, d2, d3] => { results := [.lit (.bool false)], args := [d1, d2, d3] }
  | _ => none }
def PolynomialSortsWrongFalsely : Prop := polynomialSortsRow.holds Tryz.pinned (OpenSpec.ofChange polynomialSortsWrong)

/-- 'eliminantlaw06.PolynomialSubsts': WHATEVER THE INPUT: true; the input reads as it did. -/
def polynomialSubstsSpec : ChangeSpec := { name := "polynomialSubsts", fn := fun _ => fun
  | [d1, d2, d3] => { results := [.lit (.bool true)], args := [d1, d2, d3] }
  | _ => none }
def polynomialSubstsRow : OpenClaim := { program := "yteicdddphdomkaagreat", sum := "c5ce5a93490e67b4f2f4d20d26f493d646e6091c2e3cb6636b18f3be591c7484", func := "eliminant/eliminantlaw06.PolynomialSubsts", spec := "polynomialSubsts", unfollowed := true, recurses := true, plainKeys := false, apart := false }
def PolynomialSubstsSaid : Prop := polynomialSubstsRow.holds Tryz.pinned (OpenSpec.ofChange polynomialSubstsSpec)

/-- ITS FALSE NEIGHBOUR: 'it returns false'. Refute it at one input. -/
def polynomialSubstsWrong : ChangeSpec := { name := "polynomialSubsts", fn := fun _ => fun
  | [d1, d2, d3] => { results := [.lit (.bool false)], args := [d1, d2, d3] }
  | _ => none }
def PolynomialSubstsWrongFalsely : Prop := polynomialSubstsRow.holds Tryz.pinned (OpenSpec.ofChange polynomialSubstsWrong)

/-- 'eliminantlaw06.PolynomialPermutes': WHATEVER THE INPUT: true; the input reads as it did. -/
def polynomialPermutesSpec : ChangeSpec := { name := "polynomialPermutes", fn := fun _ => fun
  | [d1, d2, d3] => { results := [.lit (.bool true)], args := [d1, d2, d3] }
  | _ => none }
def polynomialPermutesRow : OpenClaim := { program := "yteicdddphdomkaagreat", sum := "c5ce5a93490e67b4f2f4d20d26f493d646e6091c2e3cb6636b18f3be591c7484", func := "eliminant/eliminantlaw06.PolynomialPermutes", spec := "polynomialPermutes", unfollowed := true, recurses := true, plainKeys := false, apart := false }
def PolynomialPermutesSaid : Prop := polynomialPermutesRow.holds Tryz.pinned (OpenSpec.ofChange polynomialPermutesSpec)

/-- ITS FALSE NEIGHBOUR: 'it returns false'. Refute it at one input. -/
def polynomialPermutesWrong : ChangeSpec := { name := "polynomialPermutes", fn := fun _ => fun
  | [d1, d2, d3] => { results := [.lit (.bool false)], args := [d1, d2, d3] }
  | _ => none }
def PolynomialPermutesWrongFalsely : Prop := polynomialPermutesRow.holds Tryz.pinned (OpenSpec.ofChange polynomialPermutesWrong)

/-- 'eliminantlaw06.PolynomialLimits': WHATEVER THE INPUT: true; the input reads as it did. -/
def polynomialLimitsSpec : ChangeSpec := { name := "polynomialLimits", fn := fun _ => fun
  | [d1, d2, d3] => { results := [.lit (.bool true)], args := [d1, d2, d3] }
  | _ => none }
def polynomialLimitsRow : OpenClaim := { program := "yteicdddphdomkaagreat", sum := "c5ce5a93490e67b4f2f4d20d26f493d646e6091c2e3cb6636b18f3be591c7484", func := "eliminant/eliminantlaw06.PolynomialLimits", spec := "polynomialLimits", unfollowed := true, recurses := true, plainKeys := false, apart := false }
def PolynomialLimitsSaid : Prop := polynomialLimitsRow.holds Tryz.pinned (OpenSpec.ofChange polynomialLimitsSpec)

/-- ITS FALSE NEIGHBOUR: 'it returns false'. Refute it at one input. -/
def polynomialLimitsWrong : ChangeSpec := { name := "polynomialLimits", fn := fun _ => fun
  | [d1, d2, d3] => { results := [.lit (.bool false)], args := [d1, d2, d3] }
  | _ => none }
def PolynomialLimitsWrongFalsely : Prop := polynomialLimitsRow.holds Tryz.pinned (OpenSpec.ofChange polynomialLimitsWrong)

/-- 'eliminantlaw06.PolynomialMatchesReference': WHATEVER THE INPUT: true; the input reads as it did. -/
def polynomialMatchesReferenceSpec : ChangeSpec := { name := "polynomialMatchesReference", fn := fun _ => fun
  | [d1, d2, d3] => { results := [.lit (.bool true)], args := [d1, d2, d3] }
  | _ => none }
def polynomialMatchesReferenceRow : OpenClaim := { program := "yteicdddphdomkaagreat", sum := "c5ce5a93490e67b4f2f4d20d26f493d646e6091c2e3cb6636b18f3be591c7484", func := "eliminant/eliminantlaw06.PolynomialMatchesReference", spec := "polynomialMatchesReference", unfollowed := true, recurses := true, plainKeys := false, apart := false }
def PolynomialMatchesReferenceSaid : Prop := polynomialMatchesReferenceRow.holds Tryz.pinned (OpenSpec.ofChange polynomialMatchesReferenceSpec)

/-- ITS FALSE NEIGHBOUR: 'it returns false'. Refute it at one input. -/
def polynomialMatchesReferenceWrong : ChangeSpec := { name := "polynomialMatchesReference", fn := fun _ => fun
  | [d1, d2, d3] => { results := [.lit (.bool false)], args := [d1, d2, d3] }
  | _ => none }
def PolynomialMatchesReferenceWrongFalsely : Prop := polynomialMatchesReferenceRow.holds Tryz.pinned (OpenSpec.ofChange polynomialMatchesReferenceWrong)

/- THE SECOND FORM. 'bulk': how many values and letters a reading holds, each counted each time it is reached (what is shared counts as often as it is met; a slice's spare places count too). A statement '..UptoSaid' is the law's where the arguments, and the package variables that the reading takes, are together of bulk at most 1048576: NARROWER than '..Said'. Prove '..Said' where nothing that the law and all that it calls make is longer than what came in: it says more and counts as full. Else prove '..UptoSaid'. A law counts once. -/
mutual
def uptoBulk {H : Type} : DataW H → Nat
  | .lit (.string bytes) => bytes.length + 1
  | .lit _ => 1
  | .nil => 1
  | .ptr d => uptoBulk d + 1
  | .slice elems spare => uptoBulkAll elems + uptoBulkAll spare + 1
  | .agg parts => uptoBulkAll parts + 1
  | .iface _ d => uptoBulk d + 1
  | .map entries => uptoBulkEntries entries + 1
  | .held _ => 1
def uptoBulkAll {H : Type} : List (DataW H) → Nat
  | [] => 0
  | d :: r => uptoBulk d + uptoBulkAll r
def uptoBulkEntries {H : Type} : List (Lit × DataW H) → Nat
  | [] => 0
  | x :: r => uptoBulkEntry x + uptoBulkEntries r
def uptoBulkEntry {H : Type} : Lit × DataW H → Nat
  | (.string bytes, d) => bytes.length + uptoBulk d + 1
  | (_, d) => uptoBulk d + 1
 end
def uptoSmall : (H : Type) → List (DataW H) → Bool := fun _ ds => decide (uptoBulkAll ds ≤ 1048576)
def OpenSpec.upto (s : _root_.Go.ChangeSpec) : _root_.Go.OpenSpec := { _root_.Go.OpenSpec.ofChange s with cond := some uptoSmall }

/-- 'eliminantlaw06.PolynomialValid', WHERE WHAT IT READS IS OF BULK AT MOST 1048576: true; the input reads as it did. -/
def polynomialValidUptoRow : OpenClaim := { program := "yteicdddphdomkaagreat", sum := "c5ce5a93490e67b4f2f4d20d26f493d646e6091c2e3cb6636b18f3be591c7484", func := "eliminant/eliminantlaw06.PolynomialValid", spec := "polynomialValid", unfollowed := true, recurses := true, plainKeys := false, apart := false, narrowed := true }
def PolynomialValidUptoSaid : Prop := polynomialValidUptoRow.holds Tryz.pinned (OpenSpec.upto polynomialValidSpec)

/-- 'eliminantlaw06.PolynomialRing', WHERE WHAT IT READS IS OF BULK AT MOST 1048576: true; the input reads as it did. -/
def polynomialRingUptoRow : OpenClaim := { program := "yteicdddphdomkaagreat", sum := "c5ce5a93490e67b4f2f4d20d26f493d646e6091c2e3cb6636b18f3be591c7484", func := "eliminant/eliminantlaw06.PolynomialRing", spec := "polynomialRing", unfollowed := true, recurses := true, plainKeys := false, apart := false, narrowed := true }
def PolynomialRingUptoSaid : Prop := polynomialRingUptoRow.holds Tryz.pinned (OpenSpec.upto polynomialRingSpec)

/-- 'eliminantlaw06.PolynomialDerives', WHERE WHAT IT READS IS OF BULK AT MOST 1048576: true; the input reads as it did. -/
def polynomialDerivesUptoRow : OpenClaim := { program := "yteicdddphdomkaagreat", sum := "c5ce5a93490e67b4f2f4d20d26f493d646e6091c2e3cb6636b18f3be591c7484", func := "eliminant/eliminantlaw06.PolynomialDerives", spec := "polynomialDerives", unfollowed := true, recurses := true, plainKeys := false, apart := false, narrowed := true }
def PolynomialDerivesUptoSaid : Prop := polynomialDerivesUptoRow.holds Tryz.pinned (OpenSpec.upto polynomialDerivesSpec)

/-- 'eliminantlaw06.PolynomialValues', WHERE WHAT IT READS IS OF BULK AT MOST 1048576: true; the input reads as it did. -/
def polynomialValuesUptoRow : OpenClaim := { program := "yteicdddphdomkaagreat", sum := "c5ce5a93490e67b4f2f4d20d26f493d646e6091c2e3cb6636b18f3be591c7484", func := "eliminant/eliminantlaw06.PolynomialValues", spec := "polynomialValues", unfollowed := true, recurses := true, plainKeys := false, apart := false, narrowed := true }
def PolynomialValuesUptoSaid : Prop := polynomialValuesUptoRow.holds Tryz.pinned (OpenSpec.upto polynomialValuesSpec)

/-- 'eliminantlaw06.PolynomialLeads', WHERE WHAT IT READS IS OF BULK AT MOST 1048576: true; the input reads as it did. -/
def polynomialLeadsUptoRow : OpenClaim := { program := "yteicdddphdomkaagreat", sum := "c5ce5a93490e67b4f2f4d20d26f493d646e6091c2e3cb6636b18f3be591c7484", func := "eliminant/eliminantlaw06.PolynomialLeads", spec := "polynomialLeads", unfollowed := true, recurses := true, plainKeys := false, apart := false, narrowed := true }
def PolynomialLeadsUptoSaid : Prop := polynomialLeadsUptoRow.holds Tryz.pinned (OpenSpec.upto polynomialLeadsSpec)

/-- 'eliminantlaw06.PolynomialSorts', WHERE WHAT IT READS IS OF BULK AT MOST 1048576: true; the input reads as it did. -/
def polynomialSortsUptoRow : OpenClaim := { program := "yteicdddphdomkaagreat", sum := "c5ce5a93490e67b4f2f4d20d26f493d646e6091c2e3cb6636b18f3be591c7484", func := "eliminant/eliminantlaw06.PolynomialSorts", spec := "polynomialSorts", unfollowed := true, recurses := true, plainKeys := false, apart := false, narrowed := true }
def PolynomialSortsUptoSaid : Prop := polynomialSortsUptoRow.holds Tryz.pinned (OpenSpec.upto polynomialSortsSpec)

/-- 'eliminantlaw06.PolynomialSubsts', WHERE WHAT IT READS IS OF BULK AT MOST 1048576: true; the input reads as it did. -/
def polynomialSubstsUptoRow : OpenClaim := { program := "yteicdddphdomkaagreat", sum := "c5ce5a93490e67b4f2f4d20d26f493d646e6091c2e3cb6636b18f3be591c7484", func := "eliminant/eliminantlaw06.PolynomialSubsts", spec := "polynomialSubsts", unfollowed := true, recurses := true, plainKeys := false, apart := false, narrowed := true }
def PolynomialSubstsUptoSaid : Prop := polynomialSubstsUptoRow.holds Tryz.pinned (OpenSpec.upto polynomialSubstsSpec)

/-- 'eliminantlaw06.PolynomialPermutes', WHERE WHAT IT READS IS OF BULK AT MOST 1048576: true; the input reads as it did. -/
def polynomialPermutesUptoRow : OpenClaim := { program := "yteicdddphdomkaagreat", sum := "c5ce5a93490e67b4f2f4d20d26f493d646e6091c2e3cb6636b18f3be591c7484", func := "eliminant/eliminantlaw06.PolynomialPermutes", spec := "polynomialPermutes", unfollowed := true, recurses := true, plainKeys := false, apart := false, narrowed := true }
def PolynomialPermutesUptoSaid : Prop := polynomialPermutesUptoRow.holds Tryz.pinned (OpenSpec.upto polynomialPermutesSpec)

/-- 'eliminantlaw06.PolynomialLimits', WHERE WHAT IT READS IS OF BULK AT MOST 1048576: true; the input reads as it did. -/
def polynomialLimitsUptoRow : OpenClaim := { program := "yteicdddphdomkaagreat", sum := "c5ce5a93490e67b4f2f4d20d26f493d646e6091c2e3cb6636b18f3be591c7484", func := "eliminant/eliminantlaw06.PolynomialLimits", spec := "polynomialLimits", unfollowed := true, recurses := true, plainKeys := false, apart := false, narrowed := true }
def PolynomialLimitsUptoSaid : Prop := polynomialLimitsUptoRow.holds Tryz.pinned (OpenSpec.upto polynomialLimitsSpec)

/-- 'eliminantlaw06.PolynomialMatchesReference', WHERE WHAT IT READS IS OF BULK AT MOST 1048576: true; the input reads as it did. -/
def polynomialMatchesReferenceUptoRow : OpenClaim := { program := "yteicdddphdomkaagreat", sum := "c5ce5a93490e67b4f2f4d20d26f493d646e6091c2e3cb6636b18f3be591c7484", func := "eliminant/eliminantlaw06.PolynomialMatchesReference", spec := "polynomialMatchesReference", unfollowed := true, recurses := true, plainKeys := false, apart := false, narrowed := true }
def PolynomialMatchesReferenceUptoSaid : Prop := polynomialMatchesReferenceUptoRow.holds Tryz.pinned (OpenSpec.upto polynomialMatchesReferenceSpec)

end Rows
end Go.Proofs.YteicdddphdomkaaGreat
