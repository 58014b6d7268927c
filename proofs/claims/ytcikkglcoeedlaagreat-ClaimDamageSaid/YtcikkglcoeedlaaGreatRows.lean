/-
  No cell of these rows narrows 'for every input' (looked for: loops, veiled, ifaces, maps, wideKeys, modest, calm, conditions, laid).
  DERIVED. THE GIVEN ROWS OF THIS SEAT. 7 by the template 'for every input the law returns true; each argument reads behind the call as it read before'; 0 by the template 'total and deterministic' (their statements: YtcikkglcoeedlaaGreatTotals.lean).
  GIVEN WITH THE SEED: the statements are not yours to turn. If you find one false, say at which input.
  Laid BY PROGRAM, IN A SANDBOX (cutbox-rows.mjs): the forced cells as the released guide's own fill.sh prints them over the translation 652bea8a7115abdd… (all of the seat's roots in one cut). By AI agents, Wed Nov 11 2026. No macro, syntax, notation, axiom, sorry.
-/
import Derived.Test.YtcikkglcoeedlaaGreatChecked
import GoSem.Claim
import GoSem.ClaimJoined
import GoSem.ClaimMapViews
import Derived.JoinedTies
import Derived.KernelRfl
namespace Go.Proofs.YtcikkglcoeedlaaGreat
/- THE CELL 'sum', in the pinned program and in every row, IS THE sha256 OF THE DUMP (.gsa) THAT YtcikkglcoeedlaaGreatProg.lean LOADS. Nothing in Lean hashes anything: it is a label: what it is worth is what the hold of that sum in a sandbox is worth. -/
noncomputable def Tryz.pinned : Pinned := { name := "ytcikkglcoeedlaagreat", sum := "652bea8a7115abdd6f6b6ac915e147574f064dc5eae200367d467c64215ff9ca", checked := Tryz.checked }
namespace Rows
def none {H : Type} : Left H := { results := [], args := [] }

/-- 'eliminantlaw29.ClaimDecodes': WHATEVER THE INPUT: true; the input reads as it did. -/
def claimDecodesSpec : ChangeSpec := { name := "claimDecodes", fn := fun _ => fun
  | [d] => { results := [.lit (.bool true)], args := [d] }
  | _ => none }
def claimDecodesRow : OpenClaim := { program := "ytcikkglcoeedlaagreat", sum := "652bea8a7115abdd6f6b6ac915e147574f064dc5eae200367d467c64215ff9ca", func := "eliminant/eliminantlaw29.ClaimDecodes", spec := "claimDecodes", unfollowed := true, recurses := true, apart := false }
def ClaimDecodesSaid : Prop := claimDecodesRow.holds Tryz.pinned (OpenSpec.ofChange claimDecodesSpec)

/-- ITS FALSE NEIGHBOUR: 'it returns false'. Refute it at one input. -/
def claimDecodesWrong : ChangeSpec := { name := "claimDecodes", fn := fun _ => fun
  | [d] => { results := [.lit (.bool false)], args := [d] }
  | _ => none }
def ClaimDecodesWrongFalsely : Prop := claimDecodesRow.holds Tryz.pinned (OpenSpec.ofChange claimDecodesWrong)

/-- 'eliminantlaw29.ClaimDamage': WHATEVER THE INPUT: true; the input reads as it did. -/
def claimDamageSpec : ChangeSpec := { name := "claimDamage", fn := fun _ => fun
  | [d1, d2, d3] => { results := [.lit (.bool true)], args := [d1, d2, d3] }
  | _ => none }
def claimDamageRow : OpenClaim := { program := "ytcikkglcoeedlaagreat", sum := "652bea8a7115abdd6f6b6ac915e147574f064dc5eae200367d467c64215ff9ca", func := "eliminant/eliminantlaw29.ClaimDamage", spec := "claimDamage", unfollowed := true, recurses := true, apart := false }
def ClaimDamageSaid : Prop := claimDamageRow.holds Tryz.pinned (OpenSpec.ofChange claimDamageSpec)

/-- ITS FALSE NEIGHBOUR: 'it returns false'. Refute it at one input. -/
def claimDamageWrong : ChangeSpec := { name := "claimDamage", fn := fun _ => fun
  | [d1, d2, d3] => { results := [.lit (.bool false)], args := [d1, d2, d3] }
  | _ => none }
def ClaimDamageWrongFalsely : Prop := claimDamageRow.holds Tryz.pinned (OpenSpec.ofChange claimDamageWrong)

/-- 'eliminantlaw29.ClaimDifferent': WHATEVER THE INPUT: true; the input reads as it did. -/
def claimDifferentSpec : ChangeSpec := { name := "claimDifferent", fn := fun _ => fun
  | [d1, d2] => { results := [.lit (.bool true)], args := [d1, d2] }
  | _ => none }
def claimDifferentRow : OpenClaim := { program := "ytcikkglcoeedlaagreat", sum := "652bea8a7115abdd6f6b6ac915e147574f064dc5eae200367d467c64215ff9ca", func := "eliminant/eliminantlaw29.ClaimDifferent", spec := "claimDifferent", unfollowed := true, recurses := true, apart := false }
def ClaimDifferentSaid : Prop := claimDifferentRow.holds Tryz.pinned (OpenSpec.ofChange claimDifferentSpec)

/-- ITS FALSE NEIGHBOUR: 'it returns false'. Refute it at one input. -/
def claimDifferentWrong : ChangeSpec := { name := "claimDifferent", fn := fun _ => fun
  | [d1, d2] => { results := [.lit (.bool false)], args := [d1, d2] }
  | _ => none }
def ClaimDifferentWrongFalsely : Prop := claimDifferentRow.holds Tryz.pinned (OpenSpec.ofChange claimDifferentWrong)

/-- 'eliminantlaw29.ClaimAnswers': WHATEVER THE INPUT: true; the input reads as it did. -/
def claimAnswersSpec : ChangeSpec := { name := "claimAnswers", fn := fun _ => fun
  | [d1, d2] => { results := [.lit (.bool true)], args := [d1, d2] }
  | _ => none }
def claimAnswersRow : OpenClaim := { program := "ytcikkglcoeedlaagreat", sum := "652bea8a7115abdd6f6b6ac915e147574f064dc5eae200367d467c64215ff9ca", func := "eliminant/eliminantlaw29.ClaimAnswers", spec := "claimAnswers", unfollowed := true, recurses := true, apart := false }
def ClaimAnswersSaid : Prop := claimAnswersRow.holds Tryz.pinned (OpenSpec.ofChange claimAnswersSpec)

/-- ITS FALSE NEIGHBOUR: 'it returns false'. Refute it at one input. -/
def claimAnswersWrong : ChangeSpec := { name := "claimAnswers", fn := fun _ => fun
  | [d1, d2] => { results := [.lit (.bool false)], args := [d1, d2] }
  | _ => none }
def ClaimAnswersWrongFalsely : Prop := claimAnswersRow.holds Tryz.pinned (OpenSpec.ofChange claimAnswersWrong)

/-- 'eliminantlaw29.ClaimClashes': WHATEVER THE INPUT: true; the input reads as it did. -/
def claimClashesSpec : ChangeSpec := { name := "claimClashes", fn := fun _ => fun
  | [d1, d2] => { results := [.lit (.bool true)], args := [d1, d2] }
  | _ => none }
def claimClashesRow : OpenClaim := { program := "ytcikkglcoeedlaagreat", sum := "652bea8a7115abdd6f6b6ac915e147574f064dc5eae200367d467c64215ff9ca", func := "eliminant/eliminantlaw29.ClaimClashes", spec := "claimClashes", unfollowed := true, recurses := true, apart := false }
def ClaimClashesSaid : Prop := claimClashesRow.holds Tryz.pinned (OpenSpec.ofChange claimClashesSpec)

/-- ITS FALSE NEIGHBOUR: 'it returns false'. Refute it at one input. -/
def claimClashesWrong : ChangeSpec := { name := "claimClashes", fn := fun _ => fun
  | [d1, d2] => { results := [.lit (.bool false)], args := [d1, d2] }
  | _ => none }
def ClaimClashesWrongFalsely : Prop := claimClashesRow.holds Tryz.pinned (OpenSpec.ofChange claimClashesWrong)

/-- 'eliminantlaw29.ClaimMatchesReference': WHATEVER THE INPUT: true; the input reads as it did. -/
def claimMatchesReferenceSpec : ChangeSpec := { name := "claimMatchesReference", fn := fun _ => fun
  | [d1, d2] => { results := [.lit (.bool true)], args := [d1, d2] }
  | _ => none }
def claimMatchesReferenceRow : OpenClaim := { program := "ytcikkglcoeedlaagreat", sum := "652bea8a7115abdd6f6b6ac915e147574f064dc5eae200367d467c64215ff9ca", func := "eliminant/eliminantlaw29.ClaimMatchesReference", spec := "claimMatchesReference", unfollowed := true, recurses := true, apart := false }
def ClaimMatchesReferenceSaid : Prop := claimMatchesReferenceRow.holds Tryz.pinned (OpenSpec.ofChange claimMatchesReferenceSpec)

/-- ITS FALSE NEIGHBOUR: 'it returns false'. Refute it at one input. -/
def claimMatchesReferenceWrong : ChangeSpec := { name := "claimMatchesReference", fn := fun _ => fun
  | [d1, d2] => { results := [.lit (.bool false)], args := [d1, d2] }
  | _ => none }
def ClaimMatchesReferenceWrongFalsely : Prop := claimMatchesReferenceRow.holds Tryz.pinned (OpenSpec.ofChange claimMatchesReferenceWrong)

/-- 'eliminantlaw29.ClaimBack': WHATEVER THE INPUT: true; the input reads as it did. -/
def claimBackSpec : ChangeSpec := { name := "claimBack", fn := fun _ => fun
  | [d] => { results := [.lit (.bool true)], args := [d] }
  | _ => none }
def claimBackRow : OpenClaim := { program := "ytcikkglcoeedlaagreat", sum := "652bea8a7115abdd6f6b6ac915e147574f064dc5eae200367d467c64215ff9ca", func := "eliminant/eliminantlaw29.ClaimBack", spec := "claimBack", unfollowed := true, recurses := true, apart := false }
def ClaimBackSaid : Prop := claimBackRow.holds Tryz.pinned (OpenSpec.ofChange claimBackSpec)

/-- ITS FALSE NEIGHBOUR: 'it returns false'. Refute it at one input. -/
def claimBackWrong : ChangeSpec := { name := "claimBack", fn := fun _ => fun
  | [d] => { results := [.lit (.bool false)], args := [d] }
  | _ => none }
def ClaimBackWrongFalsely : Prop := claimBackRow.holds Tryz.pinned (OpenSpec.ofChange claimBackWrong)

/- THE SECOND FORM. 'bulk': how many values and letters a reading holds, each counted each time it is reached (what is shared counts as often as it is met; a slice's spare places count too). A statement '..UptoSaid' is the law's where the arguments, and the package variables that the reading takes, are together of bulk at most 1048576: NARROWER than '..Said'. Prove '..Said' where nothing that the law and all that it calls make is longer than what came in: it says more and counts as full. Else prove '..UptoSaid'. A law counts once. -/
mutual
def uptoBulk {H : Type} : DataW H → Nat
  | .lit (.string bytes) => bytes.length + 1
  | .lit _ => 1
  | .nil => 1
  | .ptr d => uptoBulk d + 1
  | .slice elems spare => uptoBulkAll elems + uptoBulkAll spare + 1
  | .agg parts => uptoBulkAll parts + 1
  | .iface _ d => uptoBulk d + 1
  | .map entries => uptoBulkEntries entries + 1
  | .held _ => 1
def uptoBulkAll {H : Type} : List (DataW H) → Nat
  | [] => 0
  | d :: r => uptoBulk d + uptoBulkAll r
def uptoBulkEntries {H : Type} : List (Lit × DataW H) → Nat
  | [] => 0
  | x :: r => uptoBulkEntry x + uptoBulkEntries r
def uptoBulkEntry {H : Type} : Lit × DataW H → Nat
  | (.string bytes, d) => bytes.length + uptoBulk d + 1
  | (_, d) => uptoBulk d + 1
 end
def uptoSmall : (H : Type) → List (DataW H) → Bool := fun _ ds => decide (uptoBulkAll ds ≤ 1048576)
def OpenSpec.upto (s : _root_.Go.ChangeSpec) : _root_.Go.OpenSpec := { _root_.Go.OpenSpec.ofChange s with cond := some uptoSmall }

/-- 'eliminantlaw29.ClaimDecodes', WHERE WHAT IT READS IS OF BULK AT MOST 1048576: true; the input reads as it did. -/
def claimDecodesUptoRow : OpenClaim := { program := "ytcikkglcoeedlaagreat", sum := "652bea8a7115abdd6f6b6ac915e147574f064dc5eae200367d467c64215ff9ca", func := "eliminant/eliminantlaw29.ClaimDecodes", spec := "claimDecodes", unfollowed := true, recurses := true, apart := false, narrowed := true }
def ClaimDecodesUptoSaid : Prop := claimDecodesUptoRow.holds Tryz.pinned (OpenSpec.upto claimDecodesSpec)

/-- 'eliminantlaw29.ClaimDamage', WHERE WHAT IT READS IS OF BULK AT MOST 1048576: true; the input reads as it did. -/
def claimDamageUptoRow : OpenClaim := { program := "ytcikkglcoeedlaagreat", sum := "652bea8a7115abdd6f6b6ac915e147574f064dc5eae200367d467c64215ff9ca", func := "eliminant/eliminantlaw29.ClaimDamage", spec := "claimDamage", unfollowed := true, recurses := true, apart := false, narrowed := true }
def ClaimDamageUptoSaid : Prop := claimDamageUptoRow.holds Tryz.pinned (OpenSpec.upto claimDamageSpec)

/-- 'eliminantlaw29.ClaimDifferent', WHERE WHAT IT READS IS OF BULK AT MOST 1048576: true; the input reads as it did. -/
def claimDifferentUptoRow : OpenClaim := { program := "ytcikkglcoeedlaagreat", sum := "652bea8a7115abdd6f6b6ac915e147574f064dc5eae200367d467c64215ff9ca", func := "eliminant/eliminantlaw29.ClaimDifferent", spec := "claimDifferent", unfollowed := true, recurses := true, apart := false, narrowed := true }
def ClaimDifferentUptoSaid : Prop := claimDifferentUptoRow.holds Tryz.pinned (OpenSpec.upto claimDifferentSpec)

/-- 'eliminantlaw29.ClaimAnswers', WHERE WHAT IT READS IS OF BULK AT MOST 1048576: true; the input reads as it did. -/
def claimAnswersUptoRow : OpenClaim := { program := "ytcikkglcoeedlaagreat", sum := "652bea8a7115abdd6f6b6ac915e147574f064dc5eae200367d467c64215ff9ca", func := "eliminant/eliminantlaw29.ClaimAnswers", spec := "claimAnswers", unfollowed := true, recurses := true, apart := false, narrowed := true }
def ClaimAnswersUptoSaid : Prop := claimAnswersUptoRow.holds Tryz.pinned (OpenSpec.upto claimAnswersSpec)

/-- 'eliminantlaw29.ClaimClashes', WHERE WHAT IT READS IS OF BULK AT MOST 1048576: true; the input reads as it did. -/
def claimClashesUptoRow : OpenClaim := { program := "ytcikkglcoeedlaagreat", sum := "652bea8a7115abdd6f6b6ac915e147574f064dc5eae200367d467c64215ff9ca", func := "eliminant/eliminantlaw29.ClaimClashes", spec := "claimClashes", unfollowed := true, recurses := true, apart := false, narrowed := true }
def ClaimClashesUptoSaid : Prop := claimClashesUptoRow.holds Tryz.pinned (OpenSpec.upto claimClashesSpec)

/-- 'eliminantlaw29.ClaimMatchesReference', WHERE WHAT IT READS IS OF BULK AT MOST 1048576: true; the input reads as it did. -/
def claimMatchesReferenceUptoRow : OpenClaim := { program := "ytcikkglcoeedlaagreat", sum := "652bea8a7115abdd6f6b6ac915e147574f064dc5eae200367d467c64215ff9ca", func := "eliminant/eliminantlaw29.ClaimMatchesReference", spec := "claimMatchesReference", unfollowed := true, recurses := true, apart := false, narrowed := true }
def ClaimMatchesReferenceUptoSaid : Prop := claimMatchesReferenceUptoRow.holds Tryz.pinned (OpenSpec.upto claimMatchesReferenceSpec)

/-- 'eliminantlaw29.ClaimBack', WHERE WHAT IT READS IS OF BULK AT MOST 1048576: true; the input reads as it did. -/
def claimBackUptoRow : OpenClaim := { program := "ytcikkglcoeedlaagreat", sum := "652bea8a7115abdd6f6b6ac915e147574f064dc5eae200367d467c64215ff9ca", func := "eliminant/eliminantlaw29.ClaimBack", spec := "claimBack", unfollowed := true, recurses := true, apart := false, narrowed := true }
def ClaimBackUptoSaid : Prop := claimBackUptoRow.holds Tryz.pinned (OpenSpec.upto claimBackSpec)

end Rows
end Go.Proofs.YtcikkglcoeedlaaGreat
