/-
  No cell of these rows narrows 'for every input' (looked for: loops, veiled, ifaces, maps, wideKeys, modest, calm, conditions, laid).
  DERIVED. THE GIVEN ROWS OF THIS SEAT. 10 by the template 'for every input the law returns true; each argument reads behind the call as it read before'; 0 by the template 'total and deterministic' (their statements: YtkknlfhncheflaaTotals.lean).
  GIVEN WITH THE SEED: the statements are not yours to turn. If you find one false, say at which input.
  Laid BY PROGRAM, IN A SANDBOX (cutbox-rows.mjs): the forced cells as the released guide's own fill.sh prints them over the translation 56abc4da7c08b509… (all of the seat's roots in one cut). By AI agents, Wed Nov 11 2026. No macro, syntax, notation, axiom, sorry.
-/
import Derived.Test.YtkknlfhncheflaaChecked
import GoSem.Claim
import GoSem.ClaimJoined
import GoSem.ClaimMapViews
import Derived.JoinedTies
import Derived.KernelRfl
namespace Go.Proofs.Ytkknlfhncheflaa
/- THE CELL 'sum', in the pinned program and in every row, IS THE sha256 OF THE DUMP (.gsa) THAT YtkknlfhncheflaaProg.lean LOADS. Nothing in Lean hashes anything: it is a label: what it is worth is what the hold of that sum in a sandbox is worth. -/
noncomputable def Try.pinned : Pinned := { name := "ytkknlfhncheflaa", sum := "56abc4da7c08b50978a71e8ba81e7dcc4825912d1a3f5e67085c6e72260e4db1", checked := Try.checked }
namespace Rows
def none {H : Type} : Left H := { results := [], args := [] }

/-- 'sleuthlaw05.BitmapOf': WHATEVER THE INPUT: true; the input reads as it did. -/
def bitmapOfSpec : ChangeSpec := { name := "bitmapOf", fn := fun _ => fun
  | [d] => { results := [.lit (.bool true)], args := [d] }
  | _ => none }
def bitmapOfRow : OpenClaim := { program := "ytkknlfhncheflaa", sum := "56abc4da7c08b50978a71e8ba81e7dcc4825912d1a3f5e67085c6e72260e4db1", func := "sleuth/sleuthlaw05.BitmapOf", spec := "bitmapOf", unfollowed := true, recurses := true, apart := false }
def BitmapOfSaid : Prop := bitmapOfRow.holds Try.pinned (OpenSpec.ofChange bitmapOfSpec)

/-- ITS FALSE NEIGHBOUR: 'it returns false'. Refute it at one input. -/
def bitmapOfWrong : ChangeSpec := { name := "bitmapOf", fn := fun _ => fun
  | [d] => { results := [.lit (.bool false)], args := [d] }
  | _ => none }
def BitmapOfWrongFalsely : Prop := bitmapOfRow.holds Try.pinned (OpenSpec.ofChange bitmapOfWrong)

/-- 'sleuthlaw05.BitmapRange': WHATEVER THE INPUT: true; the input reads as it did. -/
def bitmapRangeSpec : ChangeSpec := { name := "bitmapRange", fn := fun _ => fun
  | [d1, d2] => { results := [.lit (.bool true)], args := [d1, d2] }
  | _ => none }
def bitmapRangeRow : OpenClaim := { program := "ytkknlfhncheflaa", sum := "56abc4da7c08b50978a71e8ba81e7dcc4825912d1a3f5e67085c6e72260e4db1", func := "sleuth/sleuthlaw05.BitmapRange", spec := "bitmapRange", unfollowed := true, recurses := true, apart := false }
def BitmapRangeSaid : Prop := bitmapRangeRow.holds Try.pinned (OpenSpec.ofChange bitmapRangeSpec)

/-- ITS FALSE NEIGHBOUR: 'it returns false'. Refute it at one input. -/
def bitmapRangeWrong : ChangeSpec := { name := "bitmapRange", fn := fun _ => fun
  | [d1, d2] => { results := [.lit (.bool false)], args := [d1, d2] }
  | _ => none }
def BitmapRangeWrongFalsely : Prop := bitmapRangeRow.holds Try.pinned (OpenSpec.ofChange bitmapRangeWrong)

/-- 'sleuthlaw05.BitmapRanks': WHATEVER THE INPUT: true; the input reads as it did. -/
def bitmapRanksSpec : ChangeSpec := { name := "bitmapRanks", fn := fun _ => fun
  | [d1, d2] => { results := [.lit (.bool true)], args := [d1, d2] }
  | _ => none }
def bitmapRanksRow : OpenClaim := { program := "ytkknlfhncheflaa", sum := "56abc4da7c08b50978a71e8ba81e7dcc4825912d1a3f5e67085c6e72260e4db1", func := "sleuth/sleuthlaw05.BitmapRanks", spec := "bitmapRanks", unfollowed := true, recurses := true, apart := false }
def BitmapRanksSaid : Prop := bitmapRanksRow.holds Try.pinned (OpenSpec.ofChange bitmapRanksSpec)

/-- ITS FALSE NEIGHBOUR: 'it returns false'. Refute it at one input. -/
def bitmapRanksWrong : ChangeSpec := { name := "bitmapRanks", fn := fun _ => fun
  | [d1, d2] => { results := [.lit (.bool false)], args := [d1, d2] }
  | _ => none }
def BitmapRanksWrongFalsely : Prop := bitmapRanksRow.holds Try.pinned (OpenSpec.ofChange bitmapRanksWrong)

/-- 'sleuthlaw05.BitmapAdds': WHATEVER THE INPUT: true; the input reads as it did. -/
def bitmapAddsSpec : ChangeSpec := { name := "bitmapAdds", fn := fun _ => fun
  | [d1, d2] => { results := [.lit (.bool true)], args := [d1, d2] }
  | _ => none }
def bitmapAddsRow : OpenClaim := { program := "ytkknlfhncheflaa", sum := "56abc4da7c08b50978a71e8ba81e7dcc4825912d1a3f5e67085c6e72260e4db1", func := "sleuth/sleuthlaw05.BitmapAdds", spec := "bitmapAdds", unfollowed := true, recurses := true, apart := false }
def BitmapAddsSaid : Prop := bitmapAddsRow.holds Try.pinned (OpenSpec.ofChange bitmapAddsSpec)

/-- ITS FALSE NEIGHBOUR: 'it returns false'. Refute it at one input. -/
def bitmapAddsWrong : ChangeSpec := { name := "bitmapAdds", fn := fun _ => fun
  | [d1, d2] => { results := [.lit (.bool false)], args := [d1, d2] }
  | _ => none }
def BitmapAddsWrongFalsely : Prop := bitmapAddsRow.holds Try.pinned (OpenSpec.ofChange bitmapAddsWrong)

/-- 'sleuthlaw05.BitmapLaws': WHATEVER THE INPUT: true; the input reads as it did. -/
def bitmapLawsSpec : ChangeSpec := { name := "bitmapLaws", fn := fun _ => fun
  | [d1, d2, d3] => { results := [.lit (.bool true)], args := [d1, d2, d3] }
  | _ => none }
def bitmapLawsRow : OpenClaim := { program := "ytkknlfhncheflaa", sum := "56abc4da7c08b50978a71e8ba81e7dcc4825912d1a3f5e67085c6e72260e4db1", func := "sleuth/sleuthlaw05.BitmapLaws", spec := "bitmapLaws", unfollowed := true, recurses := true, apart := false }
def BitmapLawsSaid : Prop := bitmapLawsRow.holds Try.pinned (OpenSpec.ofChange bitmapLawsSpec)

/-- ITS FALSE NEIGHBOUR: 'it returns false'. Refute it at one input. -/
def bitmapLawsWrong : ChangeSpec := { name := "bitmapLaws", fn := fun _ => fun
  | [d1, d2, d3] => { results := [.lit (.bool false)], args := [d1, d2, d3] }
  | _ => none }
def BitmapLawsWrongFalsely : Prop := bitmapLawsRow.holds Try.pinned (OpenSpec.ofChange bitmapLawsWrong)

/-- 'sleuthlaw05.BitmapRuns': WHATEVER THE INPUT: true; the input reads as it did. -/
def bitmapRunsSpec : ChangeSpec := { name := "bitmapRuns", fn := fun _ => fun
  | [d1, d2] => { results := [.lit (.bool true)], args := [d1, d2] }
  | _ => none }
def bitmapRunsRow : OpenClaim := { program := "ytkknlfhncheflaa", sum := "56abc4da7c08b50978a71e8ba81e7dcc4825912d1a3f5e67085c6e72260e4db1", func := "sleuth/sleuthlaw05.BitmapRuns", spec := "bitmapRuns", unfollowed := true, recurses := true, apart := false }
def BitmapRunsSaid : Prop := bitmapRunsRow.holds Try.pinned (OpenSpec.ofChange bitmapRunsSpec)

/-- ITS FALSE NEIGHBOUR: 'it returns false'. Refute it at one input. -/
def bitmapRunsWrong : ChangeSpec := { name := "bitmapRuns", fn := fun _ => fun
  | [d1, d2] => { results := [.lit (.bool false)], args := [d1, d2] }
  | _ => none }
def BitmapRunsWrongFalsely : Prop := bitmapRunsRow.holds Try.pinned (OpenSpec.ofChange bitmapRunsWrong)

/-- 'sleuthlaw05.BitmapNots': WHATEVER THE INPUT: true; the input reads as it did. -/
def bitmapNotsSpec : ChangeSpec := { name := "bitmapNots", fn := fun _ => fun
  | [d1, d2, d3] => { results := [.lit (.bool true)], args := [d1, d2, d3] }
  | _ => none }
def bitmapNotsRow : OpenClaim := { program := "ytkknlfhncheflaa", sum := "56abc4da7c08b50978a71e8ba81e7dcc4825912d1a3f5e67085c6e72260e4db1", func := "sleuth/sleuthlaw05.BitmapNots", spec := "bitmapNots", unfollowed := true, recurses := true, apart := false }
def BitmapNotsSaid : Prop := bitmapNotsRow.holds Try.pinned (OpenSpec.ofChange bitmapNotsSpec)

/-- ITS FALSE NEIGHBOUR: 'it returns false'. Refute it at one input. -/
def bitmapNotsWrong : ChangeSpec := { name := "bitmapNots", fn := fun _ => fun
  | [d1, d2, d3] => { results := [.lit (.bool false)], args := [d1, d2, d3] }
  | _ => none }
def BitmapNotsWrongFalsely : Prop := bitmapNotsRow.holds Try.pinned (OpenSpec.ofChange bitmapNotsWrong)

/-- 'sleuthlaw05.BitmapCombines': WHATEVER THE INPUT: true; the input reads as it did. -/
def bitmapCombinesSpec : ChangeSpec := { name := "bitmapCombines", fn := fun _ => fun
  | [d1, d2] => { results := [.lit (.bool true)], args := [d1, d2] }
  | _ => none }
def bitmapCombinesRow : OpenClaim := { program := "ytkknlfhncheflaa", sum := "56abc4da7c08b50978a71e8ba81e7dcc4825912d1a3f5e67085c6e72260e4db1", func := "sleuth/sleuthlaw05.BitmapCombines", spec := "bitmapCombines", unfollowed := true, recurses := true, apart := false }
def BitmapCombinesSaid : Prop := bitmapCombinesRow.holds Try.pinned (OpenSpec.ofChange bitmapCombinesSpec)

/-- ITS FALSE NEIGHBOUR: 'it returns false'. Refute it at one input. -/
def bitmapCombinesWrong : ChangeSpec := { name := "bitmapCombines", fn := fun _ => fun
  | [d1, d2] => { results := [.lit (.bool false)], args := [d1, d2] }
  | _ => none }
def BitmapCombinesWrongFalsely : Prop := bitmapCombinesRow.holds Try.pinned (OpenSpec.ofChange bitmapCombinesWrong)

/-- 'sleuthlaw05.BitmapDecodes': WHATEVER THE INPUT: true; the input reads as it did. -/
def bitmapDecodesSpec : ChangeSpec := { name := "bitmapDecodes", fn := fun _ => fun
  | [d] => { results := [.lit (.bool true)], args := [d] }
  | _ => none }
def bitmapDecodesRow : OpenClaim := { program := "ytkknlfhncheflaa", sum := "56abc4da7c08b50978a71e8ba81e7dcc4825912d1a3f5e67085c6e72260e4db1", func := "sleuth/sleuthlaw05.BitmapDecodes", spec := "bitmapDecodes", unfollowed := true, recurses := true, apart := false }
def BitmapDecodesSaid : Prop := bitmapDecodesRow.holds Try.pinned (OpenSpec.ofChange bitmapDecodesSpec)

/-- ITS FALSE NEIGHBOUR: 'it returns false'. Refute it at one input. -/
def bitmapDecodesWrong : ChangeSpec := { name := "bitmapDecodes", fn := fun _ => fun
  | [d] => { results := [.lit (.bool false)], args := [d] }
  | _ => none }
def BitmapDecodesWrongFalsely : Prop := bitmapDecodesRow.holds Try.pinned (OpenSpec.ofChange bitmapDecodesWrong)

/-- 'sleuthlaw05.BitmapEncodes': WHATEVER THE INPUT: true; the input reads as it did. -/
def bitmapEncodesSpec : ChangeSpec := { name := "bitmapEncodes", fn := fun _ => fun
  | [d] => { results := [.lit (.bool true)], args := [d] }
  | _ => none }
def bitmapEncodesRow : OpenClaim := { program := "ytkknlfhncheflaa", sum := "56abc4da7c08b50978a71e8ba81e7dcc4825912d1a3f5e67085c6e72260e4db1", func := "sleuth/sleuthlaw05.BitmapEncodes", spec := "bitmapEncodes", unfollowed := true, recurses := true, apart := false }
def BitmapEncodesSaid : Prop := bitmapEncodesRow.holds Try.pinned (OpenSpec.ofChange bitmapEncodesSpec)

/-- ITS FALSE NEIGHBOUR: 'it returns false'. Refute it at one input. -/
def bitmapEncodesWrong : ChangeSpec := { name := "bitmapEncodes", fn := fun _ => fun
  | [d] => { results := [.lit (.bool false)], args := [d] }
  | _ => none }
def BitmapEncodesWrongFalsely : Prop := bitmapEncodesRow.holds Try.pinned (OpenSpec.ofChange bitmapEncodesWrong)

/- THE SECOND FORM. 'bulk': how many values and letters a reading holds, each counted each time it is reached (what is shared counts as often as it is met; a slice's spare places count too). A statement '..UptoSaid' is the law's where the arguments, and the package variables that the reading takes, are together of bulk at most 1048576: NARROWER than '..Said'. Prove '..Said' where nothing that the law and all that it calls make is longer than what came in: it says more and counts as full. Else prove '..UptoSaid'. A law counts once. -/
mutual
def uptoBulk {H : Type} : DataW H → Nat
  | .lit (.string bytes) => bytes.length + 1
  | .lit _ => 1
  | .nil => 1
  | .ptr d => uptoBulk d + 1
  | .slice elems spare => uptoBulkAll elems + uptoBulkAll spare + 1
  | .agg parts => uptoBulkAll parts + 1
  | .iface _ d => uptoBulk d + 1
  | .map entries => uptoBulkEntries entries + 1
  | .held _ => 1
def uptoBulkAll {H : Type} : List (DataW H) → Nat
  | [] => 0
  | d :: r => uptoBulk d + uptoBulkAll r
def uptoBulkEntries {H : Type} : List (Lit × DataW H) → Nat
  | [] => 0
  | x :: r => uptoBulkEntry x + uptoBulkEntries r
def uptoBulkEntry {H : Type} : Lit × DataW H → Nat
  | (.string bytes, d) => bytes.length + uptoBulk d + 1
  | (_, d) => uptoBulk d + 1
 end
def uptoSmall : (H : Type) → List (DataW H) → Bool := fun _ ds => decide (uptoBulkAll ds ≤ 1048576)
def OpenSpec.upto (s : _root_.Go.ChangeSpec) : _root_.Go.OpenSpec := { _root_.Go.OpenSpec.ofChange s with cond := some uptoSmall }

/-- 'sleuthlaw05.BitmapOf', WHERE WHAT IT READS IS OF BULK AT MOST 1048576: true; the input reads as it did. -/
def bitmapOfUptoRow : OpenClaim := { program := "ytkknlfhncheflaa", sum := "56abc4da7c08b50978a71e8ba81e7dcc4825912d1a3f5e67085c6e72260e4db1", func := "sleuth/sleuthlaw05.BitmapOf", spec := "bitmapOf", unfollowed := true, recurses := true, apart := false, narrowed := true }
def BitmapOfUptoSaid : Prop := bitmapOfUptoRow.holds Try.pinned (OpenSpec.upto bitmapOfSpec)

/-- 'sleuthlaw05.BitmapRange', WHERE WHAT IT READS IS OF BULK AT MOST 1048576: true; the input reads as it did. -/
def bitmapRangeUptoRow : OpenClaim := { program := "ytkknlfhncheflaa", sum := "56abc4da7c08b50978a71e8ba81e7dcc4825912d1a3f5e67085c6e72260e4db1", func := "sleuth/sleuthlaw05.BitmapRange", spec := "bitmapRange", unfollowed := true, recurses := true, apart := false, narrowed := true }
def BitmapRangeUptoSaid : Prop := bitmapRangeUptoRow.holds Try.pinned (OpenSpec.upto bitmapRangeSpec)

/-- 'sleuthlaw05.BitmapRanks', WHERE WHAT IT READS IS OF BULK AT MOST 1048576: true; the input reads as it did. -/
def bitmapRanksUptoRow : OpenClaim := { program := "ytkknlfhncheflaa", sum := "56abc4da7c08b50978a71e8ba81e7dcc4825912d1a3f5e67085c6e72260e4db1", func := "sleuth/sleuthlaw05.BitmapRanks", spec := "bitmapRanks", unfollowed := true, recurses := true, apart := false, narrowed := true }
def BitmapRanksUptoSaid : Prop := bitmapRanksUptoRow.holds Try.pinned (OpenSpec.upto bitmapRanksSpec)

/-- 'sleuthlaw05.BitmapAdds', WHERE WHAT IT READS IS OF BULK AT MOST 1048576: true; the input reads as it did. -/
def bitmapAddsUptoRow : OpenClaim := { program := "ytkknlfhncheflaa", sum := "56abc4da7c08b50978a71e8ba81e7dcc4825912d1a3f5e67085c6e72260e4db1", func := "sleuth/sleuthlaw05.BitmapAdds", spec := "bitmapAdds", unfollowed := true, recurses := true, apart := false, narrowed := true }
def BitmapAddsUptoSaid : Prop := bitmapAddsUptoRow.holds Try.pinned (OpenSpec.upto bitmapAddsSpec)

/-- 'sleuthlaw05.BitmapLaws', WHERE WHAT IT READS IS OF BULK AT MOST 1048576: true; the input reads as it did. -/
def bitmapLawsUptoRow : OpenClaim := { program := "ytkknlfhncheflaa", sum := "56abc4da7c08b50978a71e8ba81e7dcc4825912d1a3f5e67085c6e72260e4db1", func := "sleuth/sleuthlaw05.BitmapLaws", spec := "bitmapLaws", unfollowed := true, recurses := true, apart := false, narrowed := true }
def BitmapLawsUptoSaid : Prop := bitmapLawsUptoRow.holds Try.pinned (OpenSpec.upto bitmapLawsSpec)

/-- 'sleuthlaw05.BitmapRuns', WHERE WHAT IT READS IS OF BULK AT MOST 1048576: true; the input reads as it did. -/
def bitmapRunsUptoRow : OpenClaim := { program := "ytkknlfhncheflaa", sum := "56abc4da7c08b50978a71e8ba81e7dcc4825912d1a3f5e67085c6e72260e4db1", func := "sleuth/sleuthlaw05.BitmapRuns", spec := "bitmapRuns", unfollowed := true, recurses := true, apart := false, narrowed := true }
def BitmapRunsUptoSaid : Prop := bitmapRunsUptoRow.holds Try.pinned (OpenSpec.upto bitmapRunsSpec)

/-- 'sleuthlaw05.BitmapNots', WHERE WHAT IT READS IS OF BULK AT MOST 1048576: true; the input reads as it did. -/
def bitmapNotsUptoRow : OpenClaim := { program := "ytkknlfhncheflaa", sum := "56abc4da7c08b50978a71e8ba81e7dcc4825912d1a3f5e67085c6e72260e4db1", func := "sleuth/sleuthlaw05.BitmapNots", spec := "bitmapNots", unfollowed := true, recurses := true, apart := false, narrowed := true }
def BitmapNotsUptoSaid : Prop := bitmapNotsUptoRow.holds Try.pinned (OpenSpec.upto bitmapNotsSpec)

/-- 'sleuthlaw05.BitmapCombines', WHERE WHAT IT READS IS OF BULK AT MOST 1048576: true; the input reads as it did. -/
def bitmapCombinesUptoRow : OpenClaim := { program := "ytkknlfhncheflaa", sum := "56abc4da7c08b50978a71e8ba81e7dcc4825912d1a3f5e67085c6e72260e4db1", func := "sleuth/sleuthlaw05.BitmapCombines", spec := "bitmapCombines", unfollowed := true, recurses := true, apart := false, narrowed := true }
def BitmapCombinesUptoSaid : Prop := bitmapCombinesUptoRow.holds Try.pinned (OpenSpec.upto bitmapCombinesSpec)

/-- 'sleuthlaw05.BitmapDecodes', WHERE WHAT IT READS IS OF BULK AT MOST 1048576: true; the input reads as it did. -/
def bitmapDecodesUptoRow : OpenClaim := { program := "ytkknlfhncheflaa", sum := "56abc4da7c08b50978a71e8ba81e7dcc4825912d1a3f5e67085c6e72260e4db1", func := "sleuth/sleuthlaw05.BitmapDecodes", spec := "bitmapDecodes", unfollowed := true, recurses := true, apart := false, narrowed := true }
def BitmapDecodesUptoSaid : Prop := bitmapDecodesUptoRow.holds Try.pinned (OpenSpec.upto bitmapDecodesSpec)

/-- 'sleuthlaw05.BitmapEncodes', WHERE WHAT IT READS IS OF BULK AT MOST 1048576: true; the input reads as it did. -/
def bitmapEncodesUptoRow : OpenClaim := { program := "ytkknlfhncheflaa", sum := "56abc4da7c08b50978a71e8ba81e7dcc4825912d1a3f5e67085c6e72260e4db1", func := "sleuth/sleuthlaw05.BitmapEncodes", spec := "bitmapEncodes", unfollowed := true, recurses := true, apart := false, narrowed := true }
def BitmapEncodesUptoSaid : Prop := bitmapEncodesUptoRow.holds Try.pinned (OpenSpec.upto bitmapEncodesSpec)

end Rows
end Go.Proofs.Ytkknlfhncheflaa
