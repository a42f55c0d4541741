/-
  No cell of these rows narrows 'for every input' (looked for: loops, veiled, ifaces, maps, wideKeys, modest, calm, conditions, laid).
  DERIVED. THE GIVEN ROWS OF THIS SEAT. 10 by the template 'for every input the law returns true; each argument reads behind the call as it read before'; 0 by the template 'total and deterministic' (their statements: YtbpihhaiechnbaaTotals.lean).
  GIVEN WITH THE SEED: the statements are not yours to turn. If you find one false, say at which input.
  Laid BY PROGRAM, IN A SANDBOX (cutbox-rows.mjs): the forced cells as the released guide's own fill.sh prints them over the translation 91a482a65971d92e… (all of the seat's roots in one cut). By AI agents, Wed Nov 11 2026. No macro, syntax, notation, axiom, sorry.
-/
import Derived.Test.YtbpihhaiechnbaaChecked
import GoSem.Claim
import GoSem.ClaimJoined
import GoSem.ClaimMapViews
import Derived.JoinedTies
import Derived.KernelRfl
namespace Go.Proofs.Ytbpihhaiechnbaa
/- THE CELL 'sum', in the pinned program and in every row, IS THE sha256 OF THE DUMP (.gsa) THAT YtbpihhaiechnbaaProg.lean LOADS. Nothing in Lean hashes anything: it is a label: what it is worth is what the hold of that sum in a sandbox is worth. -/
noncomputable def Try.pinned : Pinned := { name := "ytbpihhaiechnbaa", sum := "91a482a65971d92e2d771929baef1417d276b2f6537ae1b8af6199365cc214f2", checked := Try.checked }
namespace Rows
def none {H : Type} : Left H := { results := [], args := [] }

/-- 'sleuthlaw06.DictionaryChecks': WHATEVER THE INPUT: true; the input reads as it did. -/
def dictionaryChecksSpec : ChangeSpec := { name := "dictionaryChecks", fn := fun _ => fun
  | [d] => { results := [.lit (.bool true)], args := [d] }
  | _ => none }
def dictionaryChecksRow : OpenClaim := { program := "ytbpihhaiechnbaa", sum := "91a482a65971d92e2d771929baef1417d276b2f6537ae1b8af6199365cc214f2", func := "sleuth/sleuthlaw06.DictionaryChecks", spec := "dictionaryChecks", recurses := true, apart := false }
def DictionaryChecksSaid : Prop := dictionaryChecksRow.holds Try.pinned (OpenSpec.ofChange dictionaryChecksSpec)

/-- ITS FALSE NEIGHBOUR: 'it returns false'. Refute it at one input. -/
def dictionaryChecksWrong : ChangeSpec := { name := "dictionaryChecks", fn := fun _ => fun
  | [d] => { results := [.lit (.bool false)], args := [d] }
  | _ => none }
def DictionaryChecksWrongFalsely : Prop := dictionaryChecksRow.holds Try.pinned (OpenSpec.ofChange dictionaryChecksWrong)

/-- 'sleuthlaw06.DictionaryFull': WHATEVER THE INPUT: true; the input reads as it did. -/
def dictionaryFullSpec : ChangeSpec := { name := "dictionaryFull", fn := fun _ => fun
  | [d1, d2] => { results := [.lit (.bool true)], args := [d1, d2] }
  | _ => none }
def dictionaryFullRow : OpenClaim := { program := "ytbpihhaiechnbaa", sum := "91a482a65971d92e2d771929baef1417d276b2f6537ae1b8af6199365cc214f2", func := "sleuth/sleuthlaw06.DictionaryFull", spec := "dictionaryFull", recurses := true, apart := false }
def DictionaryFullSaid : Prop := dictionaryFullRow.holds Try.pinned (OpenSpec.ofChange dictionaryFullSpec)

/-- ITS FALSE NEIGHBOUR: 'it returns false'. Refute it at one input. -/
def dictionaryFullWrong : ChangeSpec := { name := "dictionaryFull", fn := fun _ => fun
  | [d1, d2] => { results := [.lit (.bool false)], args := [d1, d2] }
  | _ => none }
def DictionaryFullWrongFalsely : Prop := dictionaryFullRow.holds Try.pinned (OpenSpec.ofChange dictionaryFullWrong)

/-- 'sleuthlaw06.DictionaryFinds': WHATEVER THE INPUT: true; the input reads as it did. -/
def dictionaryFindsSpec : ChangeSpec := { name := "dictionaryFinds", fn := fun _ => fun
  | [d1, d2] => { results := [.lit (.bool true)], args := [d1, d2] }
  | _ => none }
def dictionaryFindsRow : OpenClaim := { program := "ytbpihhaiechnbaa", sum := "91a482a65971d92e2d771929baef1417d276b2f6537ae1b8af6199365cc214f2", func := "sleuth/sleuthlaw06.DictionaryFinds", spec := "dictionaryFinds", recurses := true, apart := false }
def DictionaryFindsSaid : Prop := dictionaryFindsRow.holds Try.pinned (OpenSpec.ofChange dictionaryFindsSpec)

/-- ITS FALSE NEIGHBOUR: 'it returns false'. Refute it at one input. -/
def dictionaryFindsWrong : ChangeSpec := { name := "dictionaryFinds", fn := fun _ => fun
  | [d1, d2] => { results := [.lit (.bool false)], args := [d1, d2] }
  | _ => none }
def DictionaryFindsWrongFalsely : Prop := dictionaryFindsRow.holds Try.pinned (OpenSpec.ofChange dictionaryFindsWrong)

/-- 'sleuthlaw06.DictionaryMerges': WHATEVER THE INPUT: true; the input reads as it did. -/
def dictionaryMergesSpec : ChangeSpec := { name := "dictionaryMerges", fn := fun _ => fun
  | [d1, d2] => { results := [.lit (.bool true)], args := [d1, d2] }
  | _ => none }
def dictionaryMergesRow : OpenClaim := { program := "ytbpihhaiechnbaa", sum := "91a482a65971d92e2d771929baef1417d276b2f6537ae1b8af6199365cc214f2", func := "sleuth/sleuthlaw06.DictionaryMerges", spec := "dictionaryMerges", recurses := true, apart := false }
def DictionaryMergesSaid : Prop := dictionaryMergesRow.holds Try.pinned (OpenSpec.ofChange dictionaryMergesSpec)

/-- ITS FALSE NEIGHBOUR: 'it returns false'. Refute it at one input. -/
def dictionaryMergesWrong : ChangeSpec := { name := "dictionaryMerges", fn := fun _ => fun
  | [d1, d2] => { results := [.lit (.bool false)], args := [d1, d2] }
  | _ => none }
def DictionaryMergesWrongFalsely : Prop := dictionaryMergesRow.holds Try.pinned (OpenSpec.ofChange dictionaryMergesWrong)

/-- 'sleuthlaw06.DictionaryCodes': WHATEVER THE INPUT: true; the input reads as it did. -/
def dictionaryCodesSpec : ChangeSpec := { name := "dictionaryCodes", fn := fun _ => fun
  | [d1, d2, d3] => { results := [.lit (.bool true)], args := [d1, d2, d3] }
  | _ => none }
def dictionaryCodesRow : OpenClaim := { program := "ytbpihhaiechnbaa", sum := "91a482a65971d92e2d771929baef1417d276b2f6537ae1b8af6199365cc214f2", func := "sleuth/sleuthlaw06.DictionaryCodes", spec := "dictionaryCodes", recurses := true, apart := false }
def DictionaryCodesSaid : Prop := dictionaryCodesRow.holds Try.pinned (OpenSpec.ofChange dictionaryCodesSpec)

/-- ITS FALSE NEIGHBOUR: 'it returns false'. Refute it at one input. -/
def dictionaryCodesWrong : ChangeSpec := { name := "dictionaryCodes", fn := fun _ => fun
  | [d1, d2, d3] => { results := [.lit (.bool false)], args := [d1, d2, d3] }
  | _ => none }
def DictionaryCodesWrongFalsely : Prop := dictionaryCodesRow.holds Try.pinned (OpenSpec.ofChange dictionaryCodesWrong)

/-- 'sleuthlaw06.DictionaryRemaps': WHATEVER THE INPUT: true; the input reads as it did. -/
def dictionaryRemapsSpec : ChangeSpec := { name := "dictionaryRemaps", fn := fun _ => fun
  | [d1, d2] => { results := [.lit (.bool true)], args := [d1, d2] }
  | _ => none }
def dictionaryRemapsRow : OpenClaim := { program := "ytbpihhaiechnbaa", sum := "91a482a65971d92e2d771929baef1417d276b2f6537ae1b8af6199365cc214f2", func := "sleuth/sleuthlaw06.DictionaryRemaps", spec := "dictionaryRemaps", recurses := true, apart := false }
def DictionaryRemapsSaid : Prop := dictionaryRemapsRow.holds Try.pinned (OpenSpec.ofChange dictionaryRemapsSpec)

/-- ITS FALSE NEIGHBOUR: 'it returns false'. Refute it at one input. -/
def dictionaryRemapsWrong : ChangeSpec := { name := "dictionaryRemaps", fn := fun _ => fun
  | [d1, d2] => { results := [.lit (.bool false)], args := [d1, d2] }
  | _ => none }
def DictionaryRemapsWrongFalsely : Prop := dictionaryRemapsRow.holds Try.pinned (OpenSpec.ofChange dictionaryRemapsWrong)

/-- 'sleuthlaw06.DictionaryKeeps': WHATEVER THE INPUT: true; the input reads as it did. -/
def dictionaryKeepsSpec : ChangeSpec := { name := "dictionaryKeeps", fn := fun _ => fun
  | [d1, d2] => { results := [.lit (.bool true)], args := [d1, d2] }
  | _ => none }
def dictionaryKeepsRow : OpenClaim := { program := "ytbpihhaiechnbaa", sum := "91a482a65971d92e2d771929baef1417d276b2f6537ae1b8af6199365cc214f2", func := "sleuth/sleuthlaw06.DictionaryKeeps", spec := "dictionaryKeeps", recurses := true, apart := false }
def DictionaryKeepsSaid : Prop := dictionaryKeepsRow.holds Try.pinned (OpenSpec.ofChange dictionaryKeepsSpec)

/-- ITS FALSE NEIGHBOUR: 'it returns false'. Refute it at one input. -/
def dictionaryKeepsWrong : ChangeSpec := { name := "dictionaryKeeps", fn := fun _ => fun
  | [d1, d2] => { results := [.lit (.bool false)], args := [d1, d2] }
  | _ => none }
def DictionaryKeepsWrongFalsely : Prop := dictionaryKeepsRow.holds Try.pinned (OpenSpec.ofChange dictionaryKeepsWrong)

/-- 'sleuthlaw06.DictionaryEncodes': WHATEVER THE INPUT: true; the input reads as it did. -/
def dictionaryEncodesSpec : ChangeSpec := { name := "dictionaryEncodes", fn := fun _ => fun
  | [d] => { results := [.lit (.bool true)], args := [d] }
  | _ => none }
def dictionaryEncodesRow : OpenClaim := { program := "ytbpihhaiechnbaa", sum := "91a482a65971d92e2d771929baef1417d276b2f6537ae1b8af6199365cc214f2", func := "sleuth/sleuthlaw06.DictionaryEncodes", spec := "dictionaryEncodes", recurses := true, apart := false }
def DictionaryEncodesSaid : Prop := dictionaryEncodesRow.holds Try.pinned (OpenSpec.ofChange dictionaryEncodesSpec)

/-- ITS FALSE NEIGHBOUR: 'it returns false'. Refute it at one input. -/
def dictionaryEncodesWrong : ChangeSpec := { name := "dictionaryEncodes", fn := fun _ => fun
  | [d] => { results := [.lit (.bool false)], args := [d] }
  | _ => none }
def DictionaryEncodesWrongFalsely : Prop := dictionaryEncodesRow.holds Try.pinned (OpenSpec.ofChange dictionaryEncodesWrong)

/-- 'sleuthlaw06.DictionaryDecodes': WHATEVER THE INPUT: true; the input reads as it did. -/
def dictionaryDecodesSpec : ChangeSpec := { name := "dictionaryDecodes", fn := fun _ => fun
  | [d] => { results := [.lit (.bool true)], args := [d] }
  | _ => none }
def dictionaryDecodesRow : OpenClaim := { program := "ytbpihhaiechnbaa", sum := "91a482a65971d92e2d771929baef1417d276b2f6537ae1b8af6199365cc214f2", func := "sleuth/sleuthlaw06.DictionaryDecodes", spec := "dictionaryDecodes", recurses := true, apart := false }
def DictionaryDecodesSaid : Prop := dictionaryDecodesRow.holds Try.pinned (OpenSpec.ofChange dictionaryDecodesSpec)

/-- ITS FALSE NEIGHBOUR: 'it returns false'. Refute it at one input. -/
def dictionaryDecodesWrong : ChangeSpec := { name := "dictionaryDecodes", fn := fun _ => fun
  | [d] => { results := [.lit (.bool false)], args := [d] }
  | _ => none }
def DictionaryDecodesWrongFalsely : Prop := dictionaryDecodesRow.holds Try.pinned (OpenSpec.ofChange dictionaryDecodesWrong)

/-- 'sleuthlaw06.DictionaryTruncates': WHATEVER THE INPUT: true; the input reads as it did. -/
def dictionaryTruncatesSpec : ChangeSpec := { name := "dictionaryTruncates", fn := fun _ => fun
  | [d1, d2] => { results := [.lit (.bool true)], args := [d1, d2] }
  | _ => none }
def dictionaryTruncatesRow : OpenClaim := { program := "ytbpihhaiechnbaa", sum := "91a482a65971d92e2d771929baef1417d276b2f6537ae1b8af6199365cc214f2", func := "sleuth/sleuthlaw06.DictionaryTruncates", spec := "dictionaryTruncates", recurses := true, apart := false }
def DictionaryTruncatesSaid : Prop := dictionaryTruncatesRow.holds Try.pinned (OpenSpec.ofChange dictionaryTruncatesSpec)

/-- ITS FALSE NEIGHBOUR: 'it returns false'. Refute it at one input. -/
def dictionaryTruncatesWrong : ChangeSpec := { name := "dictionaryTruncates", fn := fun _ => fun
  | [d1, d2] => { results := [.lit (.bool false)], args := [d1, d2] }
  | _ => none }
def DictionaryTruncatesWrongFalsely : Prop := dictionaryTruncatesRow.holds Try.pinned (OpenSpec.ofChange dictionaryTruncatesWrong)

/- THE SECOND FORM. 'bulk': how many values and letters a reading holds, each counted each time it is reached (what is shared counts as often as it is met; a slice's spare places count too). A statement '..UptoSaid' is the law's where the arguments, and the package variables that the reading takes, are together of bulk at most 1048576: NARROWER than '..Said'. Prove '..Said' where nothing that the law and all that it calls make is longer than what came in: it says more and counts as full. Else prove '..UptoSaid'. A law counts once. -/
mutual
def uptoBulk {H : Type} : DataW H → Nat
  | .lit (.string bytes) => bytes.length + 1
  | .lit _ => 1
  | .nil => 1
  | .ptr d => uptoBulk d + 1
  | .slice elems spare => uptoBulkAll elems + uptoBulkAll spare + 1
  | .agg parts => uptoBulkAll parts + 1
  | .iface _ d => uptoBulk d + 1
  | .map entries => uptoBulkEntries entries + 1
  | .held _ => 1
def uptoBulkAll {H : Type} : List (DataW H) → Nat
  | [] => 0
  | d :: r => uptoBulk d + uptoBulkAll r
def uptoBulkEntries {H : Type} : List (Lit × DataW H) → Nat
  | [] => 0
  | x :: r => uptoBulkEntry x + uptoBulkEntries r
def uptoBulkEntry {H : Type} : Lit × DataW H → Nat
  | (.string bytes, d) => bytes.length + uptoBulk d + 1
  | (_, d) => uptoBulk d + 1
 end
def uptoSmall : (H : Type) → List (DataW H) → Bool := fun _ ds => decide (uptoBulkAll ds ≤ 1048576)
def OpenSpec.upto (s : _root_.Go.ChangeSpec) : _root_.Go.OpenSpec := { _root_.Go.OpenSpec.ofChange s with cond := some uptoSmall }

/-- 'sleuthlaw06.DictionaryChecks', WHERE WHAT IT READS IS OF BULK AT MOST 1048576: true; the input reads as it did. -/
def dictionaryChecksUptoRow : OpenClaim := { program := "ytbpihhaiechnbaa", sum := "91a482a65971d92e2d771929baef1417d276b2f6537ae1b8af6199365cc214f2", func := "sleuth/sleuthlaw06.DictionaryChecks", spec := "dictionaryChecks", recurses := true, apart := false, narrowed := true }
def DictionaryChecksUptoSaid : Prop := dictionaryChecksUptoRow.holds Try.pinned (OpenSpec.upto dictionaryChecksSpec)

/-- 'sleuthlaw06.DictionaryFull', WHERE WHAT IT READS IS OF BULK AT MOST 1048576: true; the input reads as it did. -/
def dictionaryFullUptoRow : OpenClaim := { program := "ytbpihhaiechnbaa", sum := "91a482a65971d92e2d771929baef1417d276b2f6537ae1b8af6199365cc214f2", func := "sleuth/sleuthlaw06.DictionaryFull", spec := "dictionaryFull", recurses := true, apart := false, narrowed := true }
def DictionaryFullUptoSaid : Prop := dictionaryFullUptoRow.holds Try.pinned (OpenSpec.upto dictionaryFullSpec)

/-- 'sleuthlaw06.DictionaryFinds', WHERE WHAT IT READS IS OF BULK AT MOST 1048576: true; the input reads as it did. -/
def dictionaryFindsUptoRow : OpenClaim := { program := "ytbpihhaiechnbaa", sum := "91a482a65971d92e2d771929baef1417d276b2f6537ae1b8af6199365cc214f2", func := "sleuth/sleuthlaw06.DictionaryFinds", spec := "dictionaryFinds", recurses := true, apart := false, narrowed := true }
def DictionaryFindsUptoSaid : Prop := dictionaryFindsUptoRow.holds Try.pinned (OpenSpec.upto dictionaryFindsSpec)

/-- 'sleuthlaw06.DictionaryMerges', WHERE WHAT IT READS IS OF BULK AT MOST 1048576: true; the input reads as it did. -/
def dictionaryMergesUptoRow : OpenClaim := { program := "ytbpihhaiechnbaa", sum := "91a482a65971d92e2d771929baef1417d276b2f6537ae1b8af6199365cc214f2", func := "sleuth/sleuthlaw06.DictionaryMerges", spec := "dictionaryMerges", recurses := true, apart := false, narrowed := true }
def DictionaryMergesUptoSaid : Prop := dictionaryMergesUptoRow.holds Try.pinned (OpenSpec.upto dictionaryMergesSpec)

/-- 'sleuthlaw06.DictionaryCodes', WHERE WHAT IT READS IS OF BULK AT MOST 1048576: true; the input reads as it did. -/
def dictionaryCodesUptoRow : OpenClaim := { program := "ytbpihhaiechnbaa", sum := "91a482a65971d92e2d771929baef1417d276b2f6537ae1b8af6199365cc214f2", func := "sleuth/sleuthlaw06.DictionaryCodes", spec := "dictionaryCodes", recurses := true, apart := false, narrowed := true }
def DictionaryCodesUptoSaid : Prop := dictionaryCodesUptoRow.holds Try.pinned (OpenSpec.upto dictionaryCodesSpec)

/-- 'sleuthlaw06.DictionaryRemaps', WHERE WHAT IT READS IS OF BULK AT MOST 1048576: true; the input reads as it did. -/
def dictionaryRemapsUptoRow : OpenClaim := { program := "ytbpihhaiechnbaa", sum := "91a482a65971d92e2d771929baef1417d276b2f6537ae1b8af6199365cc214f2", func := "sleuth/sleuthlaw06.DictionaryRemaps", spec := "dictionaryRemaps", recurses := true, apart := false, narrowed := true }
def DictionaryRemapsUptoSaid : Prop := dictionaryRemapsUptoRow.holds Try.pinned (OpenSpec.upto dictionaryRemapsSpec)

/-- 'sleuthlaw06.DictionaryKeeps', WHERE WHAT IT READS IS OF BULK AT MOST 1048576: true; the input reads as it did. -/
def dictionaryKeepsUptoRow : OpenClaim := { program := "ytbpihhaiechnbaa", sum := "91a482a65971d92e2d771929baef1417d276b2f6537ae1b8af6199365cc214f2", func := "sleuth/sleuthlaw06.DictionaryKeeps", spec := "dictionaryKeeps", recurses := true, apart := false, narrowed := true }
def DictionaryKeepsUptoSaid : Prop := dictionaryKeepsUptoRow.holds Try.pinned (OpenSpec.upto dictionaryKeepsSpec)

/-- 'sleuthlaw06.DictionaryEncodes', WHERE WHAT IT READS IS OF BULK AT MOST 1048576: true; the input reads as it did. -/
def dictionaryEncodesUptoRow : OpenClaim := { program := "ytbpihhaiechnbaa", sum := "91a482a65971d92e2d771929baef1417d276b2f6537ae1b8af6199365cc214f2", func := "sleuth/sleuthlaw06.DictionaryEncodes", spec := "dictionaryEncodes", recurses := true, apart := false, narrowed := true }
def DictionaryEncodesUptoSaid : Prop := dictionaryEncodesUptoRow.holds Try.pinned (OpenSpec.upto dictionaryEncodesSpec)

/-- 'sleuthlaw06.DictionaryDecodes', WHERE WHAT IT READS IS OF BULK AT MOST 1048576: true; the input reads as it did. -/
def dictionaryDecodesUptoRow : OpenClaim := { program := "ytbpihhaiechnbaa", sum := "91a482a65971d92e2d771929baef1417d276b2f6537ae1b8af6199365cc214f2", func := "sleuth/sleuthlaw06.DictionaryDecodes", spec := "dictionaryDecodes", recurses := true, apart := false, narrowed := true }
def DictionaryDecodesUptoSaid : Prop := dictionaryDecodesUptoRow.holds Try.pinned (OpenSpec.upto dictionaryDecodesSpec)

/-- 'sleuthlaw06.DictionaryTruncates', WHERE WHAT IT READS IS OF BULK AT MOST 1048576: true; the input reads as it did. -/
def dictionaryTruncatesUptoRow : OpenClaim := { program := "ytbpihhaiechnbaa", sum := "91a482a65971d92e2d771929baef1417d276b2f6537ae1b8af6199365cc214f2", func := "sleuth/sleuthlaw06.DictionaryTruncates", spec := "dictionaryTruncates", recurses := true, apart := false, narrowed := true }
def DictionaryTruncatesUptoSaid : Prop := dictionaryTruncatesUptoRow.holds Try.pinned (OpenSpec.upto dictionaryTruncatesSpec)

end Rows
end Go.Proofs.Ytbpihhaiechnbaa
