/-
  No cell of these rows narrows 'for every input' (looked for: loops, veiled, ifaces, maps, wideKeys, modest, calm, conditions, laid).
  DERIVED. THE GIVEN ROWS OF THIS SEAT. 12 by the template 'for every input the law returns true; each argument reads behind the call as it read before'; 0 by the template 'total and deterministic' (their statements: YtgdjnjbipemdcaaTotals.lean).
  GIVEN WITH THE SEED: the statements are not yours to turn. If you find one false, say at which input.
  Laid BY PROGRAM, IN A SANDBOX (cutbox-rows.mjs): the forced cells as the released guide's own fill.sh prints them over the translation 57d68a2cbf0c9754… (all of the seat's roots in one cut). By AI agents, Wed Nov 11 2026. No macro, syntax, notation, axiom, sorry.
-/
import Derived.Test.YtgdjnjbipemdcaaChecked
import GoSem.Claim
import GoSem.ClaimJoined
import GoSem.ClaimMapViews
import Derived.JoinedTies
import Derived.KernelRfl
namespace Go.Proofs.Ytgdjnjbipemdcaa
/- THE CELL 'sum', in the pinned program and in every row, IS THE sha256 OF THE DUMP (.gsa) THAT YtgdjnjbipemdcaaProg.lean LOADS. Nothing in Lean hashes anything: it is a label: what it is worth is what the hold of that sum in a sandbox is worth. -/
noncomputable def Try.pinned : Pinned := { name := "ytgdjnjbipemdcaa", sum := "57d68a2cbf0c9754410dd6704babde54d46c301e78688ef2016f2f286189fb54", checked := Try.checked }
namespace Rows
def none {H : Type} : Left H := { results := [], args := [] }

/-- 'sleuthlaw09.ConstraintConflicts': WHATEVER THE INPUT: true; the input reads as it did. -/
def constraintConflictsSpec : ChangeSpec := { name := "constraintConflicts", fn := fun _ => fun
  | [d] => { results := [.lit (.bool true)], args := [d] }
  | _ => none }
def constraintConflictsRow : OpenClaim := { program := "ytgdjnjbipemdcaa", sum := "57d68a2cbf0c9754410dd6704babde54d46c301e78688ef2016f2f286189fb54", func := "sleuth/sleuthlaw09.ConstraintConflicts", spec := "constraintConflicts", unfollowed := true, recurses := true, apart := false }
def ConstraintConflictsSaid : Prop := constraintConflictsRow.holds Try.pinned (OpenSpec.ofChange constraintConflictsSpec)

/-- ITS FALSE NEIGHBOUR: 'it returns false'. Refute it at one input. -/
def constraintConflictsWrong : ChangeSpec := { name := "constraintConflicts", fn := fun _ => fun
  | [d] => { results := [.lit (.bool false)], args := [d] }
  | _ => none }
def ConstraintConflictsWrongFalsely : Prop := constraintConflictsRow.holds Try.pinned (OpenSpec.ofChange constraintConflictsWrong)

/-- 'sleuthlaw09.ConstraintDistances': WHATEVER THE INPUT: true; the input reads as it did. -/
def constraintDistancesSpec : ChangeSpec := { name := "constraintDistances", fn := fun _ => fun
  | [d1, d2, d3] => { results := [.lit (.bool true)], args := [d1, d2, d3] }
  | _ => none }
def constraintDistancesRow : OpenClaim := { program := "ytgdjnjbipemdcaa", sum := "57d68a2cbf0c9754410dd6704babde54d46c301e78688ef2016f2f286189fb54", func := "sleuth/sleuthlaw09.ConstraintDistances", spec := "constraintDistances", unfollowed := true, recurses := true, apart := false }
def ConstraintDistancesSaid : Prop := constraintDistancesRow.holds Try.pinned (OpenSpec.ofChange constraintDistancesSpec)

/-- ITS FALSE NEIGHBOUR: 'it returns false'. Refute it at one input. -/
def constraintDistancesWrong : ChangeSpec := { name := "constraintDistances", fn := fun _ => fun
  | [d1, d2, d3] => { results := [.lit (.bool false)], args := [d1, d2, d3] }
  | _ => none }
def ConstraintDistancesWrongFalsely : Prop := constraintDistancesRow.holds Try.pinned (OpenSpec.ofChange constraintDistancesWrong)

/-- 'sleuthlaw09.ConstraintMonotone': WHATEVER THE INPUT: true; the input reads as it did. -/
def constraintMonotoneSpec : ChangeSpec := { name := "constraintMonotone", fn := fun _ => fun
  | [d1, d2, d3] => { results := [.lit (.bool true)], args := [d1, d2, d3] }
  | _ => none }
def constraintMonotoneRow : OpenClaim := { program := "ytgdjnjbipemdcaa", sum := "57d68a2cbf0c9754410dd6704babde54d46c301e78688ef2016f2f286189fb54", func := "sleuth/sleuthlaw09.ConstraintMonotone", spec := "constraintMonotone", unfollowed := true, recurses := true, apart := false }
def ConstraintMonotoneSaid : Prop := constraintMonotoneRow.holds Try.pinned (OpenSpec.ofChange constraintMonotoneSpec)

/-- ITS FALSE NEIGHBOUR: 'it returns false'. Refute it at one input. -/
def constraintMonotoneWrong : ChangeSpec := { name := "constraintMonotone", fn := fun _ => fun
  | [d1, d2, d3] => { results := [.lit (.bool false)], args := [d1, d2, d3] }
  | _ => none }
def ConstraintMonotoneWrongFalsely : Prop := constraintMonotoneRow.holds Try.pinned (OpenSpec.ofChange constraintMonotoneWrong)

/-- 'sleuthlaw09.ConstraintMinimal': WHATEVER THE INPUT: true; the input reads as it did. -/
def constraintMinimalSpec : ChangeSpec := { name := "constraintMinimal", fn := fun _ => fun
  | [d] => { results := [.lit (.bool true)], args := [d] }
  | _ => none }
def constraintMinimalRow : OpenClaim := { program := "ytgdjnjbipemdcaa", sum := "57d68a2cbf0c9754410dd6704babde54d46c301e78688ef2016f2f286189fb54", func := "sleuth/sleuthlaw09.ConstraintMinimal", spec := "constraintMinimal", unfollowed := true, recurses := true, apart := false }
def ConstraintMinimalSaid : Prop := constraintMinimalRow.holds Try.pinned (OpenSpec.ofChange constraintMinimalSpec)

/-- ITS FALSE NEIGHBOUR: 'it returns false'. Refute it at one input. -/
def constraintMinimalWrong : ChangeSpec := { name := "constraintMinimal", fn := fun _ => fun
  | [d] => { results := [.lit (.bool false)], args := [d] }
  | _ => none }
def ConstraintMinimalWrongFalsely : Prop := constraintMinimalRow.holds Try.pinned (OpenSpec.ofChange constraintMinimalWrong)

/-- 'sleuthlaw09.ConstraintChains': WHATEVER THE INPUT: true; the input reads as it did. -/
def constraintChainsSpec : ChangeSpec := { name := "constraintChains", fn := fun _ => fun
  | [d1, d2, d3] => { results := [.lit (.bool true)], args := [d1, d2, d3] }
  | _ => none }
def constraintChainsRow : OpenClaim := { program := "ytgdjnjbipemdcaa", sum := "57d68a2cbf0c9754410dd6704babde54d46c301e78688ef2016f2f286189fb54", func := "sleuth/sleuthlaw09.ConstraintChains", spec := "constraintChains", unfollowed := true, recurses := true, apart := false }
def ConstraintChainsSaid : Prop := constraintChainsRow.holds Try.pinned (OpenSpec.ofChange constraintChainsSpec)

/-- ITS FALSE NEIGHBOUR: 'it returns false'. Refute it at one input. -/
def constraintChainsWrong : ChangeSpec := { name := "constraintChains", fn := fun _ => fun
  | [d1, d2, d3] => { results := [.lit (.bool false)], args := [d1, d2, d3] }
  | _ => none }
def ConstraintChainsWrongFalsely : Prop := constraintChainsRow.holds Try.pinned (OpenSpec.ofChange constraintChainsWrong)

/-- 'sleuthlaw09.ConstraintLengths': WHATEVER THE INPUT: true; the input reads as it did. -/
def constraintLengthsSpec : ChangeSpec := { name := "constraintLengths", fn := fun _ => fun
  | [d1, d2, d3] => { results := [.lit (.bool true)], args := [d1, d2, d3] }
  | _ => none }
def constraintLengthsRow : OpenClaim := { program := "ytgdjnjbipemdcaa", sum := "57d68a2cbf0c9754410dd6704babde54d46c301e78688ef2016f2f286189fb54", func := "sleuth/sleuthlaw09.ConstraintLengths", spec := "constraintLengths", unfollowed := true, recurses := true, apart := false }
def ConstraintLengthsSaid : Prop := constraintLengthsRow.holds Try.pinned (OpenSpec.ofChange constraintLengthsSpec)

/-- ITS FALSE NEIGHBOUR: 'it returns false'. Refute it at one input. -/
def constraintLengthsWrong : ChangeSpec := { name := "constraintLengths", fn := fun _ => fun
  | [d1, d2, d3] => { results := [.lit (.bool false)], args := [d1, d2, d3] }
  | _ => none }
def ConstraintLengthsWrongFalsely : Prop := constraintLengthsRow.holds Try.pinned (OpenSpec.ofChange constraintLengthsWrong)

/-- 'sleuthlaw09.ConstraintLimits': WHATEVER THE INPUT: true; the input reads as it did. -/
def constraintLimitsSpec : ChangeSpec := { name := "constraintLimits", fn := fun _ => fun
  | [d1, d2] => { results := [.lit (.bool true)], args := [d1, d2] }
  | _ => none }
def constraintLimitsRow : OpenClaim := { program := "ytgdjnjbipemdcaa", sum := "57d68a2cbf0c9754410dd6704babde54d46c301e78688ef2016f2f286189fb54", func := "sleuth/sleuthlaw09.ConstraintLimits", spec := "constraintLimits", unfollowed := true, recurses := true, apart := false }
def ConstraintLimitsSaid : Prop := constraintLimitsRow.holds Try.pinned (OpenSpec.ofChange constraintLimitsSpec)

/-- ITS FALSE NEIGHBOUR: 'it returns false'. Refute it at one input. -/
def constraintLimitsWrong : ChangeSpec := { name := "constraintLimits", fn := fun _ => fun
  | [d1, d2] => { results := [.lit (.bool false)], args := [d1, d2] }
  | _ => none }
def ConstraintLimitsWrongFalsely : Prop := constraintLimitsRow.holds Try.pinned (OpenSpec.ofChange constraintLimitsWrong)

/-- 'sleuthlaw09.ConstraintSolves': WHATEVER THE INPUT: true; the input reads as it did. -/
def constraintSolvesSpec : ChangeSpec := { name := "constraintSolves", fn := fun _ => fun
  | [d] => { results := [.lit (.bool true)], args := [d] }
  | _ => none }
def constraintSolvesRow : OpenClaim := { program := "ytgdjnjbipemdcaa", sum := "57d68a2cbf0c9754410dd6704babde54d46c301e78688ef2016f2f286189fb54", func := "sleuth/sleuthlaw09.ConstraintSolves", spec := "constraintSolves", unfollowed := true, recurses := true, apart := false }
def ConstraintSolvesSaid : Prop := constraintSolvesRow.holds Try.pinned (OpenSpec.ofChange constraintSolvesSpec)

/-- ITS FALSE NEIGHBOUR: 'it returns false'. Refute it at one input. -/
def constraintSolvesWrong : ChangeSpec := { name := "constraintSolves", fn := fun _ => fun
  | [d] => { results := [.lit (.bool false)], args := [d] }
  | _ => none }
def ConstraintSolvesWrongFalsely : Prop := constraintSolvesRow.holds Try.pinned (OpenSpec.ofChange constraintSolvesWrong)

/-- 'sleuthlaw09.ConstraintSatisfies': WHATEVER THE INPUT: true; the input reads as it did. -/
def constraintSatisfiesSpec : ChangeSpec := { name := "constraintSatisfies", fn := fun _ => fun
  | [d1, d2, d3] => { results := [.lit (.bool true)], args := [d1, d2, d3] }
  | _ => none }
def constraintSatisfiesRow : OpenClaim := { program := "ytgdjnjbipemdcaa", sum := "57d68a2cbf0c9754410dd6704babde54d46c301e78688ef2016f2f286189fb54", func := "sleuth/sleuthlaw09.ConstraintSatisfies", spec := "constraintSatisfies", unfollowed := true, recurses := true, apart := false }
def ConstraintSatisfiesSaid : Prop := constraintSatisfiesRow.holds Try.pinned (OpenSpec.ofChange constraintSatisfiesSpec)

/-- ITS FALSE NEIGHBOUR: 'it returns false'. Refute it at one input. -/
def constraintSatisfiesWrong : ChangeSpec := { name := "constraintSatisfies", fn := fun _ => fun
  | [d1, d2, d3] => { results := [.lit (.bool false)], args := [d1, d2, d3] }
  | _ => none }
def ConstraintSatisfiesWrongFalsely : Prop := constraintSatisfiesRow.holds Try.pinned (OpenSpec.ofChange constraintSatisfiesWrong)

/-- 'sleuthlaw09.ConstraintImplies': WHATEVER THE INPUT: true; the input reads as it did. -/
def constraintImpliesSpec : ChangeSpec := { name := "constraintImplies", fn := fun _ => fun
  | [d1, d2] => { results := [.lit (.bool true)], args := [d1, d2] }
  | _ => none }
def constraintImpliesRow : OpenClaim := { program := "ytgdjnjbipemdcaa", sum := "57d68a2cbf0c9754410dd6704babde54d46c301e78688ef2016f2f286189fb54", func := "sleuth/sleuthlaw09.ConstraintImplies", spec := "constraintImplies", unfollowed := true, recurses := true, apart := false }
def ConstraintImpliesSaid : Prop := constraintImpliesRow.holds Try.pinned (OpenSpec.ofChange constraintImpliesSpec)

/-- ITS FALSE NEIGHBOUR: 'it returns false'. Refute it at one input. -/
def constraintImpliesWrong : ChangeSpec := { name := "constraintImplies", fn := fun _ => fun
  | [d1, d2] => { results := [.lit (.bool false)], args := [d1, d2] }
  | _ => none }
def ConstraintImpliesWrongFalsely : Prop := constraintImpliesRow.holds Try.pinned (OpenSpec.ofChange constraintImpliesWrong)

/-- 'sleuthlaw09.ConstraintChecks': WHATEVER THE INPUT: true; the input reads as it did. -/
def constraintChecksSpec : ChangeSpec := { name := "constraintChecks", fn := fun _ => fun
  | [d] => { results := [.lit (.bool true)], args := [d] }
  | _ => none }
def constraintChecksRow : OpenClaim := { program := "ytgdjnjbipemdcaa", sum := "57d68a2cbf0c9754410dd6704babde54d46c301e78688ef2016f2f286189fb54", func := "sleuth/sleuthlaw09.ConstraintChecks", spec := "constraintChecks", unfollowed := true, recurses := true, apart := false }
def ConstraintChecksSaid : Prop := constraintChecksRow.holds Try.pinned (OpenSpec.ofChange constraintChecksSpec)

/-- ITS FALSE NEIGHBOUR: 'it returns false'. Refute it at one input. -/
def constraintChecksWrong : ChangeSpec := { name := "constraintChecks", fn := fun _ => fun
  | [d] => { results := [.lit (.bool false)], args := [d] }
  | _ => none }
def ConstraintChecksWrongFalsely : Prop := constraintChecksRow.holds Try.pinned (OpenSpec.ofChange constraintChecksWrong)

/-- 'sleuthlaw09.ConstraintExtremes': WHATEVER THE INPUT: true; the input reads as it did. -/
def constraintExtremesSpec : ChangeSpec := { name := "constraintExtremes", fn := fun _ => fun
  | [d1, d2, d3] => { results := [.lit (.bool true)], args := [d1, d2, d3] }
  | _ => none }
def constraintExtremesRow : OpenClaim := { program := "ytgdjnjbipemdcaa", sum := "57d68a2cbf0c9754410dd6704babde54d46c301e78688ef2016f2f286189fb54", func := "sleuth/sleuthlaw09.ConstraintExtremes", spec := "constraintExtremes", unfollowed := true, recurses := true, apart := false }
def ConstraintExtremesSaid : Prop := constraintExtremesRow.holds Try.pinned (OpenSpec.ofChange constraintExtremesSpec)

/-- ITS FALSE NEIGHBOUR: 'it returns false'. Refute it at one input. -/
def constraintExtremesWrong : ChangeSpec := { name := "constraintExtremes", fn := fun _ => fun
  | [d1, d2, d3] => { results := [.lit (.bool false)], args := [d1, d2, d3] }
  | _ => none }
def ConstraintExtremesWrongFalsely : Prop := constraintExtremesRow.holds Try.pinned (OpenSpec.ofChange constraintExtremesWrong)

/- THE SECOND FORM. 'bulk': how many values and letters a reading holds, each counted each time it is reached (what is shared counts as often as it is met; a slice's spare places count too). A statement '..UptoSaid' is the law's where the arguments, and the package variables that the reading takes, are together of bulk at most 1048576: NARROWER than '..Said'. Prove '..Said' where nothing that the law and all that it calls make is longer than what came in: it says more and counts as full. Else prove '..UptoSaid'. A law counts once. -/
mutual
def uptoBulk {H : Type} : DataW H → Nat
  | .lit (.string bytes) => bytes.length + 1
  | .lit _ => 1
  | .nil => 1
  | .ptr d => uptoBulk d + 1
  | .slice elems spare => uptoBulkAll elems + uptoBulkAll spare + 1
  | .agg parts => uptoBulkAll parts + 1
  | .iface _ d => uptoBulk d + 1
  | .map entries => uptoBulkEntries entries + 1
  | .held _ => 1
def uptoBulkAll {H : Type} : List (DataW H) → Nat
  | [] => 0
  | d :: r => uptoBulk d + uptoBulkAll r
def uptoBulkEntries {H : Type} : List (Lit × DataW H) → Nat
  | [] => 0
  | x :: r => uptoBulkEntry x + uptoBulkEntries r
def uptoBulkEntry {H : Type} : Lit × DataW H → Nat
  | (.string bytes, d) => bytes.length + uptoBulk d + 1
  | (_, d) => uptoBulk d + 1
 end
def uptoSmall : (H : Type) → List (DataW H) → Bool := fun _ ds => decide (uptoBulkAll ds ≤ 1048576)
def OpenSpec.upto (s : _root_.Go.ChangeSpec) : _root_.Go.OpenSpec := { _root_.Go.OpenSpec.ofChange s with cond := some uptoSmall }

/-- 'sleuthlaw09.ConstraintConflicts', WHERE WHAT IT READS IS OF BULK AT MOST 1048576: true; the input reads as it did. -/
def constraintConflictsUptoRow : OpenClaim := { program := "ytgdjnjbipemdcaa", sum := "57d68a2cbf0c9754410dd6704babde54d46c301e78688ef2016f2f286189fb54", func := "sleuth/sleuthlaw09.ConstraintConflicts", spec := "constraintConflicts", unfollowed := true, recurses := true, apart := false, narrowed := true }
def ConstraintConflictsUptoSaid : Prop := constraintConflictsUptoRow.holds Try.pinned (OpenSpec.upto constraintConflictsSpec)

/-- 'sleuthlaw09.ConstraintDistances', WHERE WHAT IT READS IS OF BULK AT MOST 1048576: true; the input reads as it did. -/
def constraintDistancesUptoRow : OpenClaim := { program := "ytgdjnjbipemdcaa", sum := "57d68a2cbf0c9754410dd6704babde54d46c301e78688ef2016f2f286189fb54", func := "sleuth/sleuthlaw09.ConstraintDistances", spec := "constraintDistances", unfollowed := true, recurses := true, apart := false, narrowed := true }
def ConstraintDistancesUptoSaid : Prop := constraintDistancesUptoRow.holds Try.pinned (OpenSpec.upto constraintDistancesSpec)

/-- 'sleuthlaw09.ConstraintMonotone', WHERE WHAT IT READS IS OF BULK AT MOST 1048576: true; the input reads as it did. -/
def constraintMonotoneUptoRow : OpenClaim := { program := "ytgdjnjbipemdcaa", sum := "57d68a2cbf0c9754410dd6704babde54d46c301e78688ef2016f2f286189fb54", func := "sleuth/sleuthlaw09.ConstraintMonotone", spec := "constraintMonotone", unfollowed := true, recurses := true, apart := false, narrowed := true }
def ConstraintMonotoneUptoSaid : Prop := constraintMonotoneUptoRow.holds Try.pinned (OpenSpec.upto constraintMonotoneSpec)

/-- 'sleuthlaw09.ConstraintMinimal', WHERE WHAT IT READS IS OF BULK AT MOST 1048576: true; the input reads as it did. -/
def constraintMinimalUptoRow : OpenClaim := { program := "ytgdjnjbipemdcaa", sum := "57d68a2cbf0c9754410dd6704babde54d46c301e78688ef2016f2f286189fb54", func := "sleuth/sleuthlaw09.ConstraintMinimal", spec := "constraintMinimal", unfollowed := true, recurses := true, apart := false, narrowed := true }
def ConstraintMinimalUptoSaid : Prop := constraintMinimalUptoRow.holds Try.pinned (OpenSpec.upto constraintMinimalSpec)

/-- 'sleuthlaw09.ConstraintChains', WHERE WHAT IT READS IS OF BULK AT MOST 1048576: true; the input reads as it did. -/
def constraintChainsUptoRow : OpenClaim := { program := "ytgdjnjbipemdcaa", sum := "57d68a2cbf0c9754410dd6704babde54d46c301e78688ef2016f2f286189fb54", func := "sleuth/sleuthlaw09.ConstraintChains", spec := "constraintChains", unfollowed := true, recurses := true, apart := false, narrowed := true }
def ConstraintChainsUptoSaid : Prop := constraintChainsUptoRow.holds Try.pinned (OpenSpec.upto constraintChainsSpec)

/-- 'sleuthlaw09.ConstraintLengths', WHERE WHAT IT READS IS OF BULK AT MOST 1048576: true; the input reads as it did. -/
def constraintLengthsUptoRow : OpenClaim := { program := "ytgdjnjbipemdcaa", sum := "57d68a2cbf0c9754410dd6704babde54d46c301e78688ef2016f2f286189fb54", func := "sleuth/sleuthlaw09.ConstraintLengths", spec := "constraintLengths", unfollowed := true, recurses := true, apart := false, narrowed := true }
def ConstraintLengthsUptoSaid : Prop := constraintLengthsUptoRow.holds Try.pinned (OpenSpec.upto constraintLengthsSpec)

/-- 'sleuthlaw09.ConstraintLimits', WHERE WHAT IT READS IS OF BULK AT MOST 1048576: true; the input reads as it did. -/
def constraintLimitsUptoRow : OpenClaim := { program := "ytgdjnjbipemdcaa", sum := "57d68a2cbf0c9754410dd6704babde54d46c301e78688ef2016f2f286189fb54", func := "sleuth/sleuthlaw09.ConstraintLimits", spec := "constraintLimits", unfollowed := true, recurses := true, apart := false, narrowed := true }
def ConstraintLimitsUptoSaid : Prop := constraintLimitsUptoRow.holds Try.pinned (OpenSpec.upto constraintLimitsSpec)

/-- 'sleuthlaw09.ConstraintSolves', WHERE WHAT IT READS IS OF BULK AT MOST 1048576: true; the input reads as it did. -/
def constraintSolvesUptoRow : OpenClaim := { program := "ytgdjnjbipemdcaa", sum := "57d68a2cbf0c9754410dd6704babde54d46c301e78688ef2016f2f286189fb54", func := "sleuth/sleuthlaw09.ConstraintSolves", spec := "constraintSolves", unfollowed := true, recurses := true, apart := false, narrowed := true }
def ConstraintSolvesUptoSaid : Prop := constraintSolvesUptoRow.holds Try.pinned (OpenSpec.upto constraintSolvesSpec)

/-- 'sleuthlaw09.ConstraintSatisfies', WHERE WHAT IT READS IS OF BULK AT MOST 1048576: true; the input reads as it did. -/
def constraintSatisfiesUptoRow : OpenClaim := { program := "ytgdjnjbipemdcaa", sum := "57d68a2cbf0c9754410dd6704babde54d46c301e78688ef2016f2f286189fb54", func := "sleuth/sleuthlaw09.ConstraintSatisfies", spec := "constraintSatisfies", unfollowed := true, recurses := true, apart := false, narrowed := true }
def ConstraintSatisfiesUptoSaid : Prop := constraintSatisfiesUptoRow.holds Try.pinned (OpenSpec.upto constraintSatisfiesSpec)

/-- 'sleuthlaw09.ConstraintImplies', WHERE WHAT IT READS IS OF BULK AT MOST 1048576: true; the input reads as it did. -/
def constraintImpliesUptoRow : OpenClaim := { program := "ytgdjnjbipemdcaa", sum := "57d68a2cbf0c9754410dd6704babde54d46c301e78688ef2016f2f286189fb54", func := "sleuth/sleuthlaw09.ConstraintImplies", spec := "constraintImplies", unfollowed := true, recurses := true, apart := false, narrowed := true }
def ConstraintImpliesUptoSaid : Prop := constraintImpliesUptoRow.holds Try.pinned (OpenSpec.upto constraintImpliesSpec)

/-- 'sleuthlaw09.ConstraintChecks', WHERE WHAT IT READS IS OF BULK AT MOST 1048576: true; the input reads as it did. -/
def constraintChecksUptoRow : OpenClaim := { program := "ytgdjnjbipemdcaa", sum := "57d68a2cbf0c9754410dd6704babde54d46c301e78688ef2016f2f286189fb54", func := "sleuth/sleuthlaw09.ConstraintChecks", spec := "constraintChecks", unfollowed := true, recurses := true, apart := false, narrowed := true }
def ConstraintChecksUptoSaid : Prop := constraintChecksUptoRow.holds Try.pinned (OpenSpec.upto constraintChecksSpec)

/-- 'sleuthlaw09.ConstraintExtremes', WHERE WHAT IT READS IS OF BULK AT MOST 1048576: true; the input reads as it did. -/
def constraintExtremesUptoRow : OpenClaim := { program := "ytgdjnjbipemdcaa", sum := "57d68a2cbf0c9754410dd6704babde54d46c301e78688ef2016f2f286189fb54", func := "sleuth/sleuthlaw09.ConstraintExtremes", spec := "constraintExtremes", unfollowed := true, recurses := true, apart := false, narrowed := true }
def ConstraintExtremesUptoSaid : Prop := constraintExtremesUptoRow.holds Try.pinned (OpenSpec.upto constraintExtremesSpec)

end Rows
end Go.Proofs.Ytgdjnjbipemdcaa
