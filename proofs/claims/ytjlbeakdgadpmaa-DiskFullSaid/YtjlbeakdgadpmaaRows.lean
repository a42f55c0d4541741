/-
  No cell of these rows narrows 'for every input' (looked for: loops, veiled, ifaces, maps, wideKeys, modest, calm, conditions, laid).
  DERIVED. THE GIVEN ROWS OF THIS SEAT. 9 by the template 'for every input the law returns true; each argument reads behind the call as it read before'; 0 by the template 'total and deterministic' (their statements: YtjlbeakdgadpmaaTotals.lean).
  GIVEN WITH THE SEED: the statements are not yours to turn. If you find one false, say at which input.
  Laid BY PROGRAM, IN A SANDBOX (cutbox-rows.mjs): the forced cells as the released guide's own fill.sh prints them over the translation 42e2ad950f9a6fed… (all of the seat's roots in one cut). By AI agents, Wed Nov 11 2026. No macro, syntax, notation, axiom, sorry.
-/
import Derived.Test.YtjlbeakdgadpmaaChecked
import GoSem.Claim
import GoSem.ClaimJoined
import GoSem.ClaimMapViews
import Derived.JoinedTies
import Derived.KernelRfl
namespace Go.Proofs.Ytjlbeakdgadpmaa
/- THE CELL 'sum', in the pinned program and in every row, IS THE sha256 OF THE DUMP (.gsa) THAT YtjlbeakdgadpmaaProg.lean LOADS. Nothing in Lean hashes anything: it is a label: what it is worth is what the hold of that sum in a sandbox is worth. -/
noncomputable def Try.pinned : Pinned := { name := "ytjlbeakdgadpmaa", sum := "42e2ad950f9a6fed52a00e076216486a3629bf5b256fa8153a7d9a177e77961a", checked := Try.checked }
namespace Rows
def none {H : Type} : Left H := { results := [], args := [] }

/-- 'sleuthlaw26.DiskFull': WHATEVER THE INPUT: true; the input reads as it did. -/
def diskFullSpec : ChangeSpec := { name := "diskFull", fn := fun _ => fun
  | [d1, d2] => { results := [.lit (.bool true)], args := [d1, d2] }
  | _ => none }
def diskFullRow : OpenClaim := { program := "ytjlbeakdgadpmaa", sum := "42e2ad950f9a6fed52a00e076216486a3629bf5b256fa8153a7d9a177e77961a", func := "sleuth/sleuthlaw26.DiskFull", spec := "diskFull", unfollowed := true, recurses := true, apart := false }
def DiskFullSaid : Prop := diskFullRow.holds Try.pinned (OpenSpec.ofChange diskFullSpec)

/-- ITS FALSE NEIGHBOUR: 'it returns false'. Refute it at one input. -/
def diskFullWrong : ChangeSpec := { name := "diskFull", fn := fun _ => fun
  | [d1, d2] => { results := [.lit (.bool false)], args := [d1, d2] }
  | _ => none }
def DiskFullWrongFalsely : Prop := diskFullRow.holds Try.pinned (OpenSpec.ofChange diskFullWrong)

/-- 'sleuthlaw26.DiskMakes': WHATEVER THE INPUT: true; the input reads as it did. -/
def diskMakesSpec : ChangeSpec := { name := "diskMakes", fn := fun _ => fun
  | [d] => { results := [.lit (.bool true)], args := [d] }
  | _ => none }
def diskMakesRow : OpenClaim := { program := "ytjlbeakdgadpmaa", sum := "42e2ad950f9a6fed52a00e076216486a3629bf5b256fa8153a7d9a177e77961a", func := "sleuth/sleuthlaw26.DiskMakes", spec := "diskMakes", unfollowed := true, recurses := true, apart := false }
def DiskMakesSaid : Prop := diskMakesRow.holds Try.pinned (OpenSpec.ofChange diskMakesSpec)

/-- ITS FALSE NEIGHBOUR: 'it returns false'. Refute it at one input. -/
def diskMakesWrong : ChangeSpec := { name := "diskMakes", fn := fun _ => fun
  | [d] => { results := [.lit (.bool false)], args := [d] }
  | _ => none }
def DiskMakesWrongFalsely : Prop := diskMakesRow.holds Try.pinned (OpenSpec.ofChange diskMakesWrong)

/-- 'sleuthlaw26.DiskLimits': WHATEVER THE INPUT: true; the input reads as it did. -/
def diskLimitsSpec : ChangeSpec := { name := "diskLimits", fn := fun _ => fun
  | [d1, d2, d3] => { results := [.lit (.bool true)], args := [d1, d2, d3] }
  | _ => none }
def diskLimitsRow : OpenClaim := { program := "ytjlbeakdgadpmaa", sum := "42e2ad950f9a6fed52a00e076216486a3629bf5b256fa8153a7d9a177e77961a", func := "sleuth/sleuthlaw26.DiskLimits", spec := "diskLimits", unfollowed := true, recurses := true, apart := false }
def DiskLimitsSaid : Prop := diskLimitsRow.holds Try.pinned (OpenSpec.ofChange diskLimitsSpec)

/-- ITS FALSE NEIGHBOUR: 'it returns false'. Refute it at one input. -/
def diskLimitsWrong : ChangeSpec := { name := "diskLimits", fn := fun _ => fun
  | [d1, d2, d3] => { results := [.lit (.bool false)], args := [d1, d2, d3] }
  | _ => none }
def DiskLimitsWrongFalsely : Prop := diskLimitsRow.holds Try.pinned (OpenSpec.ofChange diskLimitsWrong)

/-- 'sleuthlaw26.DiskSurvives': WHATEVER THE INPUT: true; the input reads as it did. -/
def diskSurvivesSpec : ChangeSpec := { name := "diskSurvives", fn := fun _ => fun
  | [d1, d2, d3] => { results := [.lit (.bool true)], args := [d1, d2, d3] }
  | _ => none }
def diskSurvivesRow : OpenClaim := { program := "ytjlbeakdgadpmaa", sum := "42e2ad950f9a6fed52a00e076216486a3629bf5b256fa8153a7d9a177e77961a", func := "sleuth/sleuthlaw26.DiskSurvives", spec := "diskSurvives", unfollowed := true, recurses := true, apart := false }
def DiskSurvivesSaid : Prop := diskSurvivesRow.holds Try.pinned (OpenSpec.ofChange diskSurvivesSpec)

/-- ITS FALSE NEIGHBOUR: 'it returns false'. Refute it at one input. -/
def diskSurvivesWrong : ChangeSpec := { name := "diskSurvives", fn := fun _ => fun
  | [d1, d2, d3] => { results := [.lit (.bool false)], args := [d1, d2, d3] }
  | _ => none }
def DiskSurvivesWrongFalsely : Prop := diskSurvivesRow.holds Try.pinned (OpenSpec.ofChange diskSurvivesWrong)

/-- 'sleuthlaw26.DiskSyncs': WHATEVER THE INPUT: true; the input reads as it did. -/
def diskSyncsSpec : ChangeSpec := { name := "diskSyncs", fn := fun _ => fun
  | [d1, d2, d3] => { results := [.lit (.bool true)], args := [d1, d2, d3] }
  | _ => none }
def diskSyncsRow : OpenClaim := { program := "ytjlbeakdgadpmaa", sum := "42e2ad950f9a6fed52a00e076216486a3629bf5b256fa8153a7d9a177e77961a", func := "sleuth/sleuthlaw26.DiskSyncs", spec := "diskSyncs", unfollowed := true, recurses := true, apart := false }
def DiskSyncsSaid : Prop := diskSyncsRow.holds Try.pinned (OpenSpec.ofChange diskSyncsSpec)

/-- ITS FALSE NEIGHBOUR: 'it returns false'. Refute it at one input. -/
def diskSyncsWrong : ChangeSpec := { name := "diskSyncs", fn := fun _ => fun
  | [d1, d2, d3] => { results := [.lit (.bool false)], args := [d1, d2, d3] }
  | _ => none }
def DiskSyncsWrongFalsely : Prop := diskSyncsRow.holds Try.pinned (OpenSpec.ofChange diskSyncsWrong)

/-- 'sleuthlaw26.DiskRuns': WHATEVER THE INPUT: true; the input reads as it did. -/
def diskRunsSpec : ChangeSpec := { name := "diskRuns", fn := fun _ => fun
  | [d1, d2] => { results := [.lit (.bool true)], args := [d1, d2] }
  | _ => none }
def diskRunsRow : OpenClaim := { program := "ytjlbeakdgadpmaa", sum := "42e2ad950f9a6fed52a00e076216486a3629bf5b256fa8153a7d9a177e77961a", func := "sleuth/sleuthlaw26.DiskRuns", spec := "diskRuns", unfollowed := true, recurses := true, apart := false }
def DiskRunsSaid : Prop := diskRunsRow.holds Try.pinned (OpenSpec.ofChange diskRunsSpec)

/-- ITS FALSE NEIGHBOUR: 'it returns false'. Refute it at one input. -/
def diskRunsWrong : ChangeSpec := { name := "diskRuns", fn := fun _ => fun
  | [d1, d2] => { results := [.lit (.bool false)], args := [d1, d2] }
  | _ => none }
def DiskRunsWrongFalsely : Prop := diskRunsRow.holds Try.pinned (OpenSpec.ofChange diskRunsWrong)

/-- 'sleuthlaw26.DiskRenames': WHATEVER THE INPUT: true; the input reads as it did. -/
def diskRenamesSpec : ChangeSpec := { name := "diskRenames", fn := fun _ => fun
  | [d1, d2, d3] => { results := [.lit (.bool true)], args := [d1, d2, d3] }
  | _ => none }
def diskRenamesRow : OpenClaim := { program := "ytjlbeakdgadpmaa", sum := "42e2ad950f9a6fed52a00e076216486a3629bf5b256fa8153a7d9a177e77961a", func := "sleuth/sleuthlaw26.DiskRenames", spec := "diskRenames", inPlace := ["maps.clone"], unfollowed := true, recurses := true, apart := false }
def DiskRenamesSaid : Prop := diskRenamesRow.holds Try.pinned (OpenSpec.ofChange diskRenamesSpec)

/-- ITS FALSE NEIGHBOUR: 'it returns false'. Refute it at one input. -/
def diskRenamesWrong : ChangeSpec := { name := "diskRenames", fn := fun _ => fun
  | [d1, d2, d3] => { results := [.lit (.bool false)], args := [d1, d2, d3] }
  | _ => none }
def DiskRenamesWrongFalsely : Prop := diskRenamesRow.holds Try.pinned (OpenSpec.ofChange diskRenamesWrong)

/-- 'sleuthlaw26.DiskClones': WHATEVER THE INPUT: true; the input reads as it did. -/
def diskClonesSpec : ChangeSpec := { name := "diskClones", fn := fun _ => fun
  | [d1, d2, d3] => { results := [.lit (.bool true)], args := [d1, d2, d3] }
  | _ => none }
def diskClonesRow : OpenClaim := { program := "ytjlbeakdgadpmaa", sum := "42e2ad950f9a6fed52a00e076216486a3629bf5b256fa8153a7d9a177e77961a", func := "sleuth/sleuthlaw26.DiskClones", spec := "diskClones", inPlace := ["maps.clone"], unfollowed := true, recurses := true, apart := false }
def DiskClonesSaid : Prop := diskClonesRow.holds Try.pinned (OpenSpec.ofChange diskClonesSpec)

/-- ITS FALSE NEIGHBOUR: 'it returns false'. Refute it at one input. -/
def diskClonesWrong : ChangeSpec := { name := "diskClones", fn := fun _ => fun
  | [d1, d2, d3] => { results := [.lit (.bool false)], args := [d1, d2, d3] }
  | _ => none }
def DiskClonesWrongFalsely : Prop := diskClonesRow.holds Try.pinned (OpenSpec.ofChange diskClonesWrong)

/-- 'sleuthlaw26.DiskNil': WHATEVER THE INPUT: true; the input reads as it did. -/
def diskNilSpec : ChangeSpec := { name := "diskNil", fn := fun _ => fun
  | [d1, d2, d3] => { results := [.lit (.bool true)], args := [d1, d2, d3] }
  | _ => none }
def diskNilRow : OpenClaim := { program := "ytjlbeakdgadpmaa", sum := "42e2ad950f9a6fed52a00e076216486a3629bf5b256fa8153a7d9a177e77961a", func := "sleuth/sleuthlaw26.DiskNil", spec := "diskNil", inPlace := ["maps.clone"], unfollowed := true, recurses := true, apart := false }
def DiskNilSaid : Prop := diskNilRow.holds Try.pinned (OpenSpec.ofChange diskNilSpec)

/-- ITS FALSE NEIGHBOUR: 'it returns false'. Refute it at one input. -/
def diskNilWrong : ChangeSpec := { name := "diskNil", fn := fun _ => fun
  | [d1, d2, d3] => { results := [.lit (.bool false)], args := [d1, d2, d3] }
  | _ => none }
def DiskNilWrongFalsely : Prop := diskNilRow.holds Try.pinned (OpenSpec.ofChange diskNilWrong)

/- THE SECOND FORM. 'bulk': how many values and letters a reading holds, each counted each time it is reached (what is shared counts as often as it is met; a slice's spare places count too). A statement '..UptoSaid' is the law's where the arguments, and the package variables that the reading takes, are together of bulk at most 1048576: NARROWER than '..Said'. Prove '..Said' where nothing that the law and all that it calls make is longer than what came in: it says more and counts as full. Else prove '..UptoSaid'. A law counts once. -/
mutual
def uptoBulk {H : Type} : DataW H → Nat
  | .lit (.string bytes) => bytes.length + 1
  | .lit _ => 1
  | .nil => 1
  | .ptr d => uptoBulk d + 1
  | .slice elems spare => uptoBulkAll elems + uptoBulkAll spare + 1
  | .agg parts => uptoBulkAll parts + 1
  | .iface _ d => uptoBulk d + 1
  | .map entries => uptoBulkEntries entries + 1
  | .held _ => 1
def uptoBulkAll {H : Type} : List (DataW H) → Nat
  | [] => 0
  | d :: r => uptoBulk d + uptoBulkAll r
def uptoBulkEntries {H : Type} : List (Lit × DataW H) → Nat
  | [] => 0
  | x :: r => uptoBulkEntry x + uptoBulkEntries r
def uptoBulkEntry {H : Type} : Lit × DataW H → Nat
  | (.string bytes, d) => bytes.length + uptoBulk d + 1
  | (_, d) => uptoBulk d + 1
 end
def uptoSmall : (H : Type) → List (DataW H) → Bool := fun _ ds => decide (uptoBulkAll ds ≤ 1048576)
def OpenSpec.upto (s : _root_.Go.ChangeSpec) : _root_.Go.OpenSpec := { _root_.Go.OpenSpec.ofChange s with cond := some uptoSmall }

/-- 'sleuthlaw26.DiskFull', WHERE WHAT IT READS IS OF BULK AT MOST 1048576: true; the input reads as it did. -/
def diskFullUptoRow : OpenClaim := { program := "ytjlbeakdgadpmaa", sum := "42e2ad950f9a6fed52a00e076216486a3629bf5b256fa8153a7d9a177e77961a", func := "sleuth/sleuthlaw26.DiskFull", spec := "diskFull", unfollowed := true, recurses := true, apart := false, narrowed := true }
def DiskFullUptoSaid : Prop := diskFullUptoRow.holds Try.pinned (OpenSpec.upto diskFullSpec)

/-- 'sleuthlaw26.DiskMakes', WHERE WHAT IT READS IS OF BULK AT MOST 1048576: true; the input reads as it did. -/
def diskMakesUptoRow : OpenClaim := { program := "ytjlbeakdgadpmaa", sum := "42e2ad950f9a6fed52a00e076216486a3629bf5b256fa8153a7d9a177e77961a", func := "sleuth/sleuthlaw26.DiskMakes", spec := "diskMakes", unfollowed := true, recurses := true, apart := false, narrowed := true }
def DiskMakesUptoSaid : Prop := diskMakesUptoRow.holds Try.pinned (OpenSpec.upto diskMakesSpec)

/-- 'sleuthlaw26.DiskLimits', WHERE WHAT IT READS IS OF BULK AT MOST 1048576: true; the input reads as it did. -/
def diskLimitsUptoRow : OpenClaim := { program := "ytjlbeakdgadpmaa", sum := "42e2ad950f9a6fed52a00e076216486a3629bf5b256fa8153a7d9a177e77961a", func := "sleuth/sleuthlaw26.DiskLimits", spec := "diskLimits", unfollowed := true, recurses := true, apart := false, narrowed := true }
def DiskLimitsUptoSaid : Prop := diskLimitsUptoRow.holds Try.pinned (OpenSpec.upto diskLimitsSpec)

/-- 'sleuthlaw26.DiskSurvives', WHERE WHAT IT READS IS OF BULK AT MOST 1048576: true; the input reads as it did. -/
def diskSurvivesUptoRow : OpenClaim := { program := "ytjlbeakdgadpmaa", sum := "42e2ad950f9a6fed52a00e076216486a3629bf5b256fa8153a7d9a177e77961a", func := "sleuth/sleuthlaw26.DiskSurvives", spec := "diskSurvives", unfollowed := true, recurses := true, apart := false, narrowed := true }
def DiskSurvivesUptoSaid : Prop := diskSurvivesUptoRow.holds Try.pinned (OpenSpec.upto diskSurvivesSpec)

/-- 'sleuthlaw26.DiskSyncs', WHERE WHAT IT READS IS OF BULK AT MOST 1048576: true; the input reads as it did. -/
def diskSyncsUptoRow : OpenClaim := { program := "ytjlbeakdgadpmaa", sum := "42e2ad950f9a6fed52a00e076216486a3629bf5b256fa8153a7d9a177e77961a", func := "sleuth/sleuthlaw26.DiskSyncs", spec := "diskSyncs", unfollowed := true, recurses := true, apart := false, narrowed := true }
def DiskSyncsUptoSaid : Prop := diskSyncsUptoRow.holds Try.pinned (OpenSpec.upto diskSyncsSpec)

/-- 'sleuthlaw26.DiskRuns', WHERE WHAT IT READS IS OF BULK AT MOST 1048576: true; the input reads as it did. -/
def diskRunsUptoRow : OpenClaim := { program := "ytjlbeakdgadpmaa", sum := "42e2ad950f9a6fed52a00e076216486a3629bf5b256fa8153a7d9a177e77961a", func := "sleuth/sleuthlaw26.DiskRuns", spec := "diskRuns", unfollowed := true, recurses := true, apart := false, narrowed := true }
def DiskRunsUptoSaid : Prop := diskRunsUptoRow.holds Try.pinned (OpenSpec.upto diskRunsSpec)

/-- 'sleuthlaw26.DiskRenames', WHERE WHAT IT READS IS OF BULK AT MOST 1048576: true; the input reads as it did. -/
def diskRenamesUptoRow : OpenClaim := { program := "ytjlbeakdgadpmaa", sum := "42e2ad950f9a6fed52a00e076216486a3629bf5b256fa8153a7d9a177e77961a", func := "sleuth/sleuthlaw26.DiskRenames", spec := "diskRenames", inPlace := ["maps.clone"], unfollowed := true, recurses := true, apart := false, narrowed := true }
def DiskRenamesUptoSaid : Prop := diskRenamesUptoRow.holds Try.pinned (OpenSpec.upto diskRenamesSpec)

/-- 'sleuthlaw26.DiskClones', WHERE WHAT IT READS IS OF BULK AT MOST 1048576: true; the input reads as it did. -/
def diskClonesUptoRow : OpenClaim := { program := "ytjlbeakdgadpmaa", sum := "42e2ad950f9a6fed52a00e076216486a3629bf5b256fa8153a7d9a177e77961a", func := "sleuth/sleuthlaw26.DiskClones", spec := "diskClones", inPlace := ["maps.clone"], unfollowed := true, recurses := true, apart := false, narrowed := true }
def DiskClonesUptoSaid : Prop := diskClonesUptoRow.holds Try.pinned (OpenSpec.upto diskClonesSpec)

/-- 'sleuthlaw26.DiskNil', WHERE WHAT IT READS IS OF BULK AT MOST 1048576: true; the input reads as it did. -/
def diskNilUptoRow : OpenClaim := { program := "ytjlbeakdgadpmaa", sum := "42e2ad950f9a6fed52a00e076216486a3629bf5b256fa8153a7d9a177e77961a", func := "sleuth/sleuthlaw26.DiskNil", spec := "diskNil", inPlace := ["maps.clone"], unfollowed := true, recurses := true, apart := false, narrowed := true }
def DiskNilUptoSaid : Prop := diskNilUptoRow.holds Try.pinned (OpenSpec.upto diskNilSpec)

end Rows
end Go.Proofs.Ytjlbeakdgadpmaa
