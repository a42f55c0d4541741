/-
  No cell of these rows narrows 'for every input' (looked for: loops, veiled, ifaces, maps, wideKeys, modest, calm, conditions, laid).
  DERIVED. THE GIVEN ROWS OF THIS SEAT. 9 by the template 'for every input the law returns true; each argument reads behind the call as it read before'; 0 by the template 'total and deterministic' (their statements: YtcbigmgakdanjaaTotals.lean).
  GIVEN WITH THE SEED: the statements are not yours to turn. If you find one false, say at which input.
  Laid BY PROGRAM, IN A SANDBOX (cutbox-rows.mjs): the forced cells as the released guide's own fill.sh prints them over the translation ddd207fc6f75e388… (all of the seat's roots in one cut). By AI agents, Wed Nov 11 2026. No macro, syntax, notation, axiom, sorry.
-/
import Derived.Test.YtcbigmgakdanjaaChecked
import GoSem.Claim
import GoSem.ClaimJoined
import GoSem.ClaimMapViews
import Derived.JoinedTies
import Derived.KernelRfl
namespace Go.Proofs.Ytcbigmgakdanjaa
/- THE CELL 'sum', in the pinned program and in every row, IS THE sha256 OF THE DUMP (.gsa) THAT YtcbigmgakdanjaaProg.lean LOADS. Nothing in Lean hashes anything: it is a label: what it is worth is what the hold of that sum in a sandbox is worth. -/
noncomputable def Try.pinned : Pinned := { name := "ytcbigmgakdanjaa", sum := "ddd207fc6f75e388f707ecb785a6a33dde0d486995b6c6613666ea63d9a1093e", checked := Try.checked }
namespace Rows
def none {H : Type} : Left H := { results := [], args := [] }

/-- 'sleuthlaw27.WalLimits': WHATEVER THE INPUT: true; the input reads as it did. -/
def walLimitsSpec : ChangeSpec := { name := "walLimits", fn := fun _ => fun
  | [d1, d2] => { results := [.lit (.bool true)], args := [d1, d2] }
  | _ => none }
def walLimitsRow : OpenClaim := { program := "ytcbigmgakdanjaa", sum := "ddd207fc6f75e388f707ecb785a6a33dde0d486995b6c6613666ea63d9a1093e", func := "sleuth/sleuthlaw27.WalLimits", spec := "walLimits", unfollowed := true, recurses := true, apart := false }
def WalLimitsSaid : Prop := walLimitsRow.holds Try.pinned (OpenSpec.ofChange walLimitsSpec)

/-- ITS FALSE NEIGHBOUR: 'it returns false'. Refute it at one input. -/
def walLimitsWrong : ChangeSpec := { name := "walLimits", fn := fun _ => fun
  | [d1, d2] => { results := [.lit (.bool false)], args := [d1, d2] }
  | _ => none }
def WalLimitsWrongFalsely : Prop := walLimitsRow.holds Try.pinned (OpenSpec.ofChange walLimitsWrong)

/-- 'sleuthlaw27.WalFull': WHATEVER THE INPUT: true; the input reads as it did. -/
def walFullSpec : ChangeSpec := { name := "walFull", fn := fun _ => fun
  | [d1, d2] => { results := [.lit (.bool true)], args := [d1, d2] }
  | _ => none }
def walFullRow : OpenClaim := { program := "ytcbigmgakdanjaa", sum := "ddd207fc6f75e388f707ecb785a6a33dde0d486995b6c6613666ea63d9a1093e", func := "sleuth/sleuthlaw27.WalFull", spec := "walFull", inPlace := ["maps.clone"], unfollowed := true, recurses := true, apart := false }
def WalFullSaid : Prop := walFullRow.holds Try.pinned (OpenSpec.ofChange walFullSpec)

/-- ITS FALSE NEIGHBOUR: 'it returns false'. Refute it at one input. -/
def walFullWrong : ChangeSpec := { name := "walFull", fn := fun _ => fun
  | [d1, d2] => { results := [.lit (.bool false)], args := [d1, d2] }
  | _ => none }
def WalFullWrongFalsely : Prop := walFullRow.holds Try.pinned (OpenSpec.ofChange walFullWrong)

/-- 'sleuthlaw27.WalReads': WHATEVER THE INPUT: true; the input reads as it did. -/
def walReadsSpec : ChangeSpec := { name := "walReads", fn := fun _ => fun
  | [d1, d2] => { results := [.lit (.bool true)], args := [d1, d2] }
  | _ => none }
def walReadsRow : OpenClaim := { program := "ytcbigmgakdanjaa", sum := "ddd207fc6f75e388f707ecb785a6a33dde0d486995b6c6613666ea63d9a1093e", func := "sleuth/sleuthlaw27.WalReads", spec := "walReads", unfollowed := true, recurses := true, apart := false }
def WalReadsSaid : Prop := walReadsRow.holds Try.pinned (OpenSpec.ofChange walReadsSpec)

/-- ITS FALSE NEIGHBOUR: 'it returns false'. Refute it at one input. -/
def walReadsWrong : ChangeSpec := { name := "walReads", fn := fun _ => fun
  | [d1, d2] => { results := [.lit (.bool false)], args := [d1, d2] }
  | _ => none }
def WalReadsWrongFalsely : Prop := walReadsRow.holds Try.pinned (OpenSpec.ofChange walReadsWrong)

/-- 'sleuthlaw27.WalRuns': WHATEVER THE INPUT: true; the input reads as it did. -/
def walRunsSpec : ChangeSpec := { name := "walRuns", fn := fun _ => fun
  | [d] => { results := [.lit (.bool true)], args := [d] }
  | _ => none }
def walRunsRow : OpenClaim := { program := "ytcbigmgakdanjaa", sum := "ddd207fc6f75e388f707ecb785a6a33dde0d486995b6c6613666ea63d9a1093e", func := "sleuth/sleuthlaw27.WalRuns", spec := "walRuns", unfollowed := true, recurses := true, apart := false }
def WalRunsSaid : Prop := walRunsRow.holds Try.pinned (OpenSpec.ofChange walRunsSpec)

/-- ITS FALSE NEIGHBOUR: 'it returns false'. Refute it at one input. -/
def walRunsWrong : ChangeSpec := { name := "walRuns", fn := fun _ => fun
  | [d] => { results := [.lit (.bool false)], args := [d] }
  | _ => none }
def WalRunsWrongFalsely : Prop := walRunsRow.holds Try.pinned (OpenSpec.ofChange walRunsWrong)

/-- 'sleuthlaw27.WalShares': WHATEVER THE INPUT: true; the input reads as it did. -/
def walSharesSpec : ChangeSpec := { name := "walShares", fn := fun _ => fun
  | [d1, d2] => { results := [.lit (.bool true)], args := [d1, d2] }
  | _ => none }
def walSharesRow : OpenClaim := { program := "ytcbigmgakdanjaa", sum := "ddd207fc6f75e388f707ecb785a6a33dde0d486995b6c6613666ea63d9a1093e", func := "sleuth/sleuthlaw27.WalShares", spec := "walShares", unfollowed := true, recurses := true, apart := false }
def WalSharesSaid : Prop := walSharesRow.holds Try.pinned (OpenSpec.ofChange walSharesSpec)

/-- ITS FALSE NEIGHBOUR: 'it returns false'. Refute it at one input. -/
def walSharesWrong : ChangeSpec := { name := "walShares", fn := fun _ => fun
  | [d1, d2] => { results := [.lit (.bool false)], args := [d1, d2] }
  | _ => none }
def WalSharesWrongFalsely : Prop := walSharesRow.holds Try.pinned (OpenSpec.ofChange walSharesWrong)

/-- 'sleuthlaw27.WalNil': WHATEVER THE INPUT: true; the input reads as it did. -/
def walNilSpec : ChangeSpec := { name := "walNil", fn := fun _ => fun
  | [d1, d2] => { results := [.lit (.bool true)], args := [d1, d2] }
  | _ => none }
def walNilRow : OpenClaim := { program := "ytcbigmgakdanjaa", sum := "ddd207fc6f75e388f707ecb785a6a33dde0d486995b6c6613666ea63d9a1093e", func := "sleuth/sleuthlaw27.WalNil", spec := "walNil", unfollowed := true, recurses := true, apart := false }
def WalNilSaid : Prop := walNilRow.holds Try.pinned (OpenSpec.ofChange walNilSpec)

/-- ITS FALSE NEIGHBOUR: 'it returns false'. Refute it at one input. -/
def walNilWrong : ChangeSpec := { name := "walNil", fn := fun _ => fun
  | [d1, d2] => { results := [.lit (.bool false)], args := [d1, d2] }
  | _ => none }
def WalNilWrongFalsely : Prop := walNilRow.holds Try.pinned (OpenSpec.ofChange walNilWrong)

/-- 'sleuthlaw27.WalOpens': WHATEVER THE INPUT: true; the input reads as it did. -/
def walOpensSpec : ChangeSpec := { name := "walOpens", fn := fun _ => fun
  | [d] => { results := [.lit (.bool true)], args := [d] }
  | _ => none }
def walOpensRow : OpenClaim := { program := "ytcbigmgakdanjaa", sum := "ddd207fc6f75e388f707ecb785a6a33dde0d486995b6c6613666ea63d9a1093e", func := "sleuth/sleuthlaw27.WalOpens", spec := "walOpens", inPlace := ["maps.clone"], unfollowed := true, recurses := true, apart := false }
def WalOpensSaid : Prop := walOpensRow.holds Try.pinned (OpenSpec.ofChange walOpensSpec)

/-- ITS FALSE NEIGHBOUR: 'it returns false'. Refute it at one input. -/
def walOpensWrong : ChangeSpec := { name := "walOpens", fn := fun _ => fun
  | [d] => { results := [.lit (.bool false)], args := [d] }
  | _ => none }
def WalOpensWrongFalsely : Prop := walOpensRow.holds Try.pinned (OpenSpec.ofChange walOpensWrong)

/-- 'sleuthlaw27.WalRecovers': WHATEVER THE INPUT: true; the input reads as it did. -/
def walRecoversSpec : ChangeSpec := { name := "walRecovers", fn := fun _ => fun
  | [d1, d2, d3] => { results := [.lit (.bool true)], args := [d1, d2, d3] }
  | _ => none }
def walRecoversRow : OpenClaim := { program := "ytcbigmgakdanjaa", sum := "ddd207fc6f75e388f707ecb785a6a33dde0d486995b6c6613666ea63d9a1093e", func := "sleuth/sleuthlaw27.WalRecovers", spec := "walRecovers", unfollowed := true, recurses := true, apart := false }
def WalRecoversSaid : Prop := walRecoversRow.holds Try.pinned (OpenSpec.ofChange walRecoversSpec)

/-- ITS FALSE NEIGHBOUR: 'it returns false'. Refute it at one input. -/
def walRecoversWrong : ChangeSpec := { name := "walRecovers", fn := fun _ => fun
  | [d1, d2, d3] => { results := [.lit (.bool false)], args := [d1, d2, d3] }
  | _ => none }
def WalRecoversWrongFalsely : Prop := walRecoversRow.holds Try.pinned (OpenSpec.ofChange walRecoversWrong)

/-- 'sleuthlaw27.WalCrashes': WHATEVER THE INPUT: true; the input reads as it did. -/
def walCrashesSpec : ChangeSpec := { name := "walCrashes", fn := fun _ => fun
  | [d1, d2] => { results := [.lit (.bool true)], args := [d1, d2] }
  | _ => none }
def walCrashesRow : OpenClaim := { program := "ytcbigmgakdanjaa", sum := "ddd207fc6f75e388f707ecb785a6a33dde0d486995b6c6613666ea63d9a1093e", func := "sleuth/sleuthlaw27.WalCrashes", spec := "walCrashes", unfollowed := true, recurses := true, apart := false }
def WalCrashesSaid : Prop := walCrashesRow.holds Try.pinned (OpenSpec.ofChange walCrashesSpec)

/-- ITS FALSE NEIGHBOUR: 'it returns false'. Refute it at one input. -/
def walCrashesWrong : ChangeSpec := { name := "walCrashes", fn := fun _ => fun
  | [d1, d2] => { results := [.lit (.bool false)], args := [d1, d2] }
  | _ => none }
def WalCrashesWrongFalsely : Prop := walCrashesRow.holds Try.pinned (OpenSpec.ofChange walCrashesWrong)

/- THE SECOND FORM. 'bulk': how many values and letters a reading holds, each counted each time it is reached (what is shared counts as often as it is met; a slice's spare places count too). A statement '..UptoSaid' is the law's where the arguments, and the package variables that the reading takes, are together of bulk at most 1048576: NARROWER than '..Said'. Prove '..Said' where nothing that the law and all that it calls make is longer than what came in: it says more and counts as full. Else prove '..UptoSaid'. A law counts once. -/
mutual
def uptoBulk {H : Type} : DataW H → Nat
  | .lit (.string bytes) => bytes.length + 1
  | .lit _ => 1
  | .nil => 1
  | .ptr d => uptoBulk d + 1
  | .slice elems spare => uptoBulkAll elems + uptoBulkAll spare + 1
  | .agg parts => uptoBulkAll parts + 1
  | .iface _ d => uptoBulk d + 1
  | .map entries => uptoBulkEntries entries + 1
  | .held _ => 1
def uptoBulkAll {H : Type} : List (DataW H) → Nat
  | [] => 0
  | d :: r => uptoBulk d + uptoBulkAll r
def uptoBulkEntries {H : Type} : List (Lit × DataW H) → Nat
  | [] => 0
  | x :: r => uptoBulkEntry x + uptoBulkEntries r
def uptoBulkEntry {H : Type} : Lit × DataW H → Nat
  | (.string bytes, d) => bytes.length + uptoBulk d + 1
  | (_, d) => uptoBulk d + 1
 end
def uptoSmall : (H : Type) → List (DataW H) → Bool := fun _ ds => decide (uptoBulkAll ds ≤ 1048576)
def OpenSpec.upto (s : _root_.Go.ChangeSpec) : _root_.Go.OpenSpec := { _root_.Go.OpenSpec.ofChange s with cond := some uptoSmall }

/-- 'sleuthlaw27.WalLimits', WHERE WHAT IT READS IS OF BULK AT MOST 1048576: true; the input reads as it did. -/
def walLimitsUptoRow : OpenClaim := { program := "ytcbigmgakdanjaa", sum := "ddd207fc6f75e388f707ecb785a6a33dde0d486995b6c6613666ea63d9a1093e", func := "sleuth/sleuthlaw27.WalLimits", spec := "walLimits", unfollowed := true, recurses := true, apart := false, narrowed := true }
def WalLimitsUptoSaid : Prop := walLimitsUptoRow.holds Try.pinned (OpenSpec.upto walLimitsSpec)

/-- 'sleuthlaw27.WalFull', WHERE WHAT IT READS IS OF BULK AT MOST 1048576: true; the input reads as it did. -/
def walFullUptoRow : OpenClaim := { program := "ytcbigmgakdanjaa", sum := "ddd207fc6f75e388f707ecb785a6a33dde0d486995b6c6613666ea63d9a1093e", func := "sleuth/sleuthlaw27.WalFull", spec := "walFull", inPlace := ["maps.clone"], unfollowed := true, recurses := true, apart := false, narrowed := true }
def WalFullUptoSaid : Prop := walFullUptoRow.holds Try.pinned (OpenSpec.upto walFullSpec)

/-- 'sleuthlaw27.WalReads', WHERE WHAT IT READS IS OF BULK AT MOST 1048576: true; the input reads as it did. -/
def walReadsUptoRow : OpenClaim := { program := "ytcbigmgakdanjaa", sum := "ddd207fc6f75e388f707ecb785a6a33dde0d486995b6c6613666ea63d9a1093e", func := "sleuth/sleuthlaw27.WalReads", spec := "walReads", unfollowed := true, recurses := true, apart := false, narrowed := true }
def WalReadsUptoSaid : Prop := walReadsUptoRow.holds Try.pinned (OpenSpec.upto walReadsSpec)

/-- 'sleuthlaw27.WalRuns', WHERE WHAT IT READS IS OF BULK AT MOST 1048576: true; the input reads as it did. -/
def walRunsUptoRow : OpenClaim := { program := "ytcbigmgakdanjaa", sum := "ddd207fc6f75e388f707ecb785a6a33dde0d486995b6c6613666ea63d9a1093e", func := "sleuth/sleuthlaw27.WalRuns", spec := "walRuns", unfollowed := true, recurses := true, apart := false, narrowed := true }
def WalRunsUptoSaid : Prop := walRunsUptoRow.holds Try.pinned (OpenSpec.upto walRunsSpec)

/-- 'sleuthlaw27.WalShares', WHERE WHAT IT READS IS OF BULK AT MOST 1048576: true; the input reads as it did. -/
def walSharesUptoRow : OpenClaim := { program := "ytcbigmgakdanjaa", sum := "ddd207fc6f75e388f707ecb785a6a33dde0d486995b6c6613666ea63d9a1093e", func := "sleuth/sleuthlaw27.WalShares", spec := "walShares", unfollowed := true, recurses := true, apart := false, narrowed := true }
def WalSharesUptoSaid : Prop := walSharesUptoRow.holds Try.pinned (OpenSpec.upto walSharesSpec)

/-- 'sleuthlaw27.WalNil', WHERE WHAT IT READS IS OF BULK AT MOST 1048576: true; the input reads as it did. -/
def walNilUptoRow : OpenClaim := { program := "ytcbigmgakdanjaa", sum := "ddd207fc6f75e388f707ecb785a6a33dde0d486995b6c6613666ea63d9a1093e", func := "sleuth/sleuthlaw27.WalNil", spec := "walNil", unfollowed := true, recurses := true, apart := false, narrowed := true }
def WalNilUptoSaid : Prop := walNilUptoRow.holds Try.pinned (OpenSpec.upto walNilSpec)

/-- 'sleuthlaw27.WalOpens', WHERE WHAT IT READS IS OF BULK AT MOST 1048576: true; the input reads as it did. -/
def walOpensUptoRow : OpenClaim := { program := "ytcbigmgakdanjaa", sum := "ddd207fc6f75e388f707ecb785a6a33dde0d486995b6c6613666ea63d9a1093e", func := "sleuth/sleuthlaw27.WalOpens", spec := "walOpens", inPlace := ["maps.clone"], unfollowed := true, recurses := true, apart := false, narrowed := true }
def WalOpensUptoSaid : Prop := walOpensUptoRow.holds Try.pinned (OpenSpec.upto walOpensSpec)

/-- 'sleuthlaw27.WalRecovers', WHERE WHAT IT READS IS OF BULK AT MOST 1048576: true; the input reads as it did. -/
def walRecoversUptoRow : OpenClaim := { program := "ytcbigmgakdanjaa", sum := "ddd207fc6f75e388f707ecb785a6a33dde0d486995b6c6613666ea63d9a1093e", func := "sleuth/sleuthlaw27.WalRecovers", spec := "walRecovers", unfollowed := true, recurses := true, apart := false, narrowed := true }
def WalRecoversUptoSaid : Prop := walRecoversUptoRow.holds Try.pinned (OpenSpec.upto walRecoversSpec)

/-- 'sleuthlaw27.WalCrashes', WHERE WHAT IT READS IS OF BULK AT MOST 1048576: true; the input reads as it did. -/
def walCrashesUptoRow : OpenClaim := { program := "ytcbigmgakdanjaa", sum := "ddd207fc6f75e388f707ecb785a6a33dde0d486995b6c6613666ea63d9a1093e", func := "sleuth/sleuthlaw27.WalCrashes", spec := "walCrashes", unfollowed := true, recurses := true, apart := false, narrowed := true }
def WalCrashesUptoSaid : Prop := walCrashesUptoRow.holds Try.pinned (OpenSpec.upto walCrashesSpec)

end Rows
end Go.Proofs.Ytcbigmgakdanjaa
