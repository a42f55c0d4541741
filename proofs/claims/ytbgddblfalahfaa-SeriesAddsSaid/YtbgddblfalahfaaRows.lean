/-
  No cell of these rows narrows 'for every input' (looked for: loops, veiled, ifaces, maps, wideKeys, modest, calm, conditions, laid).
  DERIVED. THE GIVEN ROWS OF THIS SEAT. 11 by the template 'for every input the law returns true; each argument reads behind the call as it read before'; 0 by the template 'total and deterministic' (their statements: YtbgddblfalahfaaTotals.lean).
  GIVEN WITH THE SEED: the statements are not yours to turn. If you find one false, say at which input.
  Laid BY PROGRAM, IN A SANDBOX (cutbox-rows.mjs): the forced cells as the released guide's own fill.sh prints them over the translation e05126b4ac2f0790… (all of the seat's roots in one cut). By AI agents, Wed Nov 11 2026. No macro, syntax, notation, axiom, sorry.
-/
import Derived.Test.YtbgddblfalahfaaChecked
import GoSem.Claim
import GoSem.ClaimJoined
import GoSem.ClaimMapViews
import Derived.JoinedTies
import Derived.KernelRfl
namespace Go.Proofs.Ytbgddblfalahfaa
/- THE CELL 'sum', in the pinned program and in every row, IS THE sha256 OF THE DUMP (.gsa) THAT YtbgddblfalahfaaProg.lean LOADS. Nothing in Lean hashes anything: it is a label: what it is worth is what the hold of that sum in a sandbox is worth. -/
noncomputable def Try.pinned : Pinned := { name := "ytbgddblfalahfaa", sum := "e05126b4ac2f07907cfc3f2e96fc09dba4a1492849518f08f5802f055026f85e", checked := Try.checked }
namespace Rows
def none {H : Type} : Left H := { results := [], args := [] }

/-- 'sleuthlaw43.SeriesQuantiles': WHATEVER THE INPUT: true; the input reads as it did. -/
def seriesQuantilesSpec : ChangeSpec := { name := "seriesQuantiles", fn := fun _ => fun
  | [d1, d2] => { results := [.lit (.bool true)], args := [d1, d2] }
  | _ => none }
def seriesQuantilesRow : OpenClaim := { program := "ytbgddblfalahfaa", sum := "e05126b4ac2f07907cfc3f2e96fc09dba4a1492849518f08f5802f055026f85e", func := "sleuth/sleuthlaw43.SeriesQuantiles", spec := "seriesQuantiles", unfollowed := true, recurses := true, apart := false }
def SeriesQuantilesSaid : Prop := seriesQuantilesRow.holds Try.pinned (OpenSpec.ofChange seriesQuantilesSpec)

/-- ITS FALSE NEIGHBOUR: 'it returns false'. Refute it at one input. -/
def seriesQuantilesWrong : ChangeSpec := { name := "seriesQuantiles", fn := fun _ => fun
  | [d1, d2] => { results := [.lit (.bool false)], args := [d1, d2] }
  | _ => none }
def SeriesQuantilesWrongFalsely : Prop := seriesQuantilesRow.holds Try.pinned (OpenSpec.ofChange seriesQuantilesWrong)

/-- 'sleuthlaw43.SeriesUntouched': WHATEVER THE INPUT: true; the input reads as it did. -/
def seriesUntouchedSpec : ChangeSpec := { name := "seriesUntouched", fn := fun _ => fun
  | [d1, d2, d3] => { results := [.lit (.bool true)], args := [d1, d2, d3] }
  | _ => none }
def seriesUntouchedRow : OpenClaim := { program := "ytbgddblfalahfaa", sum := "e05126b4ac2f07907cfc3f2e96fc09dba4a1492849518f08f5802f055026f85e", func := "sleuth/sleuthlaw43.SeriesUntouched", spec := "seriesUntouched", unfollowed := true, recurses := true, apart := false }
def SeriesUntouchedSaid : Prop := seriesUntouchedRow.holds Try.pinned (OpenSpec.ofChange seriesUntouchedSpec)

/-- ITS FALSE NEIGHBOUR: 'it returns false'. Refute it at one input. -/
def seriesUntouchedWrong : ChangeSpec := { name := "seriesUntouched", fn := fun _ => fun
  | [d1, d2, d3] => { results := [.lit (.bool false)], args := [d1, d2, d3] }
  | _ => none }
def SeriesUntouchedWrongFalsely : Prop := seriesUntouchedRow.holds Try.pinned (OpenSpec.ofChange seriesUntouchedWrong)

/-- 'sleuthlaw43.SeriesRates': WHATEVER THE INPUT: true; the input reads as it did. -/
def seriesRatesSpec : ChangeSpec := { name := "seriesRates", fn := fun _ => fun
  | [d1, d2] => { results := [.lit (.bool true)], args := [d1, d2] }
  | _ => none }
def seriesRatesRow : OpenClaim := { program := "ytbgddblfalahfaa", sum := "e05126b4ac2f07907cfc3f2e96fc09dba4a1492849518f08f5802f055026f85e", func := "sleuth/sleuthlaw43.SeriesRates", spec := "seriesRates", unfollowed := true, recurses := true, apart := false }
def SeriesRatesSaid : Prop := seriesRatesRow.holds Try.pinned (OpenSpec.ofChange seriesRatesSpec)

/-- ITS FALSE NEIGHBOUR: 'it returns false'. Refute it at one input. -/
def seriesRatesWrong : ChangeSpec := { name := "seriesRates", fn := fun _ => fun
  | [d1, d2] => { results := [.lit (.bool false)], args := [d1, d2] }
  | _ => none }
def SeriesRatesWrongFalsely : Prop := seriesRatesRow.holds Try.pinned (OpenSpec.ofChange seriesRatesWrong)

/-- 'sleuthlaw43.SeriesChanges': WHATEVER THE INPUT: true; the input reads as it did. -/
def seriesChangesSpec : ChangeSpec := { name := "seriesChanges", fn := fun _ => fun
  | [d1, d2, d3] => { results := [.lit (.bool true)], args := [d1, d2, d3] }
  | _ => none }
def seriesChangesRow : OpenClaim := { program := "ytbgddblfalahfaa", sum := "e05126b4ac2f07907cfc3f2e96fc09dba4a1492849518f08f5802f055026f85e", func := "sleuth/sleuthlaw43.SeriesChanges", spec := "seriesChanges", unfollowed := true, recurses := true, apart := false }
def SeriesChangesSaid : Prop := seriesChangesRow.holds Try.pinned (OpenSpec.ofChange seriesChangesSpec)

/-- ITS FALSE NEIGHBOUR: 'it returns false'. Refute it at one input. -/
def seriesChangesWrong : ChangeSpec := { name := "seriesChanges", fn := fun _ => fun
  | [d1, d2, d3] => { results := [.lit (.bool false)], args := [d1, d2, d3] }
  | _ => none }
def SeriesChangesWrongFalsely : Prop := seriesChangesRow.holds Try.pinned (OpenSpec.ofChange seriesChangesWrong)

/-- 'sleuthlaw43.SeriesChecks': WHATEVER THE INPUT: true; the input reads as it did. -/
def seriesChecksSpec : ChangeSpec := { name := "seriesChecks", fn := fun _ => fun
  | [d1, d2, d3] => { results := [.lit (.bool true)], args := [d1, d2, d3] }
  | _ => none }
def seriesChecksRow : OpenClaim := { program := "ytbgddblfalahfaa", sum := "e05126b4ac2f07907cfc3f2e96fc09dba4a1492849518f08f5802f055026f85e", func := "sleuth/sleuthlaw43.SeriesChecks", spec := "seriesChecks", unfollowed := true, recurses := true, apart := false }
def SeriesChecksSaid : Prop := seriesChecksRow.holds Try.pinned (OpenSpec.ofChange seriesChecksSpec)

/-- ITS FALSE NEIGHBOUR: 'it returns false'. Refute it at one input. -/
def seriesChecksWrong : ChangeSpec := { name := "seriesChecks", fn := fun _ => fun
  | [d1, d2, d3] => { results := [.lit (.bool false)], args := [d1, d2, d3] }
  | _ => none }
def SeriesChecksWrongFalsely : Prop := seriesChecksRow.holds Try.pinned (OpenSpec.ofChange seriesChecksWrong)

/-- 'sleuthlaw43.SeriesMeasures': WHATEVER THE INPUT: true; the input reads as it did. -/
def seriesMeasuresSpec : ChangeSpec := { name := "seriesMeasures", fn := fun _ => fun
  | [d1, d2, d3] => { results := [.lit (.bool true)], args := [d1, d2, d3] }
  | _ => none }
def seriesMeasuresRow : OpenClaim := { program := "ytbgddblfalahfaa", sum := "e05126b4ac2f07907cfc3f2e96fc09dba4a1492849518f08f5802f055026f85e", func := "sleuth/sleuthlaw43.SeriesMeasures", spec := "seriesMeasures", unfollowed := true, recurses := true, apart := false }
def SeriesMeasuresSaid : Prop := seriesMeasuresRow.holds Try.pinned (OpenSpec.ofChange seriesMeasuresSpec)

/-- ITS FALSE NEIGHBOUR: 'it returns false'. Refute it at one input. -/
def seriesMeasuresWrong : ChangeSpec := { name := "seriesMeasures", fn := fun _ => fun
  | [d1, d2, d3] => { results := [.lit (.bool false)], args := [d1, d2, d3] }
  | _ => none }
def SeriesMeasuresWrongFalsely : Prop := seriesMeasuresRow.holds Try.pinned (OpenSpec.ofChange seriesMeasuresWrong)

/-- 'sleuthlaw43.SeriesErrors': WHATEVER THE INPUT: true; the input reads as it did. -/
def seriesErrorsSpec : ChangeSpec := { name := "seriesErrors", fn := fun _ => fun
  | [d1, d2] => { results := [.lit (.bool true)], args := [d1, d2] }
  | _ => none }
def seriesErrorsRow : OpenClaim := { program := "ytbgddblfalahfaa", sum := "e05126b4ac2f07907cfc3f2e96fc09dba4a1492849518f08f5802f055026f85e", func := "sleuth/sleuthlaw43.SeriesErrors", spec := "seriesErrors", unfollowed := true, recurses := true, apart := false }
def SeriesErrorsSaid : Prop := seriesErrorsRow.holds Try.pinned (OpenSpec.ofChange seriesErrorsSpec)

/-- ITS FALSE NEIGHBOUR: 'it returns false'. Refute it at one input. -/
def seriesErrorsWrong : ChangeSpec := { name := "seriesErrors", fn := fun _ => fun
  | [d1, d2] => { results := [.lit (.bool false)], args := [d1, d2] }
  | _ => none }
def SeriesErrorsWrongFalsely : Prop := seriesErrorsRow.holds Try.pinned (OpenSpec.ofChange seriesErrorsWrong)

/-- 'sleuthlaw43.SeriesJoins': WHATEVER THE INPUT: true; the input reads as it did. -/
def seriesJoinsSpec : ChangeSpec := { name := "seriesJoins", fn := fun _ => fun
  | [d1, d2, d3] => { results := [.lit (.bool true)], args := [d1, d2, d3] }
  | _ => none }
def seriesJoinsRow : OpenClaim := { program := "ytbgddblfalahfaa", sum := "e05126b4ac2f07907cfc3f2e96fc09dba4a1492849518f08f5802f055026f85e", func := "sleuth/sleuthlaw43.SeriesJoins", spec := "seriesJoins", unfollowed := true, recurses := true, apart := false }
def SeriesJoinsSaid : Prop := seriesJoinsRow.holds Try.pinned (OpenSpec.ofChange seriesJoinsSpec)

/-- ITS FALSE NEIGHBOUR: 'it returns false'. Refute it at one input. -/
def seriesJoinsWrong : ChangeSpec := { name := "seriesJoins", fn := fun _ => fun
  | [d1, d2, d3] => { results := [.lit (.bool false)], args := [d1, d2, d3] }
  | _ => none }
def SeriesJoinsWrongFalsely : Prop := seriesJoinsRow.holds Try.pinned (OpenSpec.ofChange seriesJoinsWrong)

/-- 'sleuthlaw43.SeriesSums': WHATEVER THE INPUT: true; the input reads as it did. -/
def seriesSumsSpec : ChangeSpec := { name := "seriesSums", fn := fun _ => fun
  | [d1, d2] => { results := [.lit (.bool true)], args := [d1, d2] }
  | _ => none }
def seriesSumsRow : OpenClaim := { program := "ytbgddblfalahfaa", sum := "e05126b4ac2f07907cfc3f2e96fc09dba4a1492849518f08f5802f055026f85e", func := "sleuth/sleuthlaw43.SeriesSums", spec := "seriesSums", unfollowed := true, recurses := true, apart := false }
def SeriesSumsSaid : Prop := seriesSumsRow.holds Try.pinned (OpenSpec.ofChange seriesSumsSpec)

/-- ITS FALSE NEIGHBOUR: 'it returns false'. Refute it at one input. -/
def seriesSumsWrong : ChangeSpec := { name := "seriesSums", fn := fun _ => fun
  | [d1, d2] => { results := [.lit (.bool false)], args := [d1, d2] }
  | _ => none }
def SeriesSumsWrongFalsely : Prop := seriesSumsRow.holds Try.pinned (OpenSpec.ofChange seriesSumsWrong)

/-- 'sleuthlaw43.SeriesWindows': WHATEVER THE INPUT: true; the input reads as it did. -/
def seriesWindowsSpec : ChangeSpec := { name := "seriesWindows", fn := fun _ => fun
  | [d1, d2, d3] => { results := [.lit (.bool true)], args := [d1, d2, d3] }
  | _ => none }
def seriesWindowsRow : OpenClaim := { program := "ytbgddblfalahfaa", sum := "e05126b4ac2f07907cfc3f2e96fc09dba4a1492849518f08f5802f055026f85e", func := "sleuth/sleuthlaw43.SeriesWindows", spec := "seriesWindows", unfollowed := true, recurses := true, apart := false }
def SeriesWindowsSaid : Prop := seriesWindowsRow.holds Try.pinned (OpenSpec.ofChange seriesWindowsSpec)

/-- ITS FALSE NEIGHBOUR: 'it returns false'. Refute it at one input. -/
def seriesWindowsWrong : ChangeSpec := { name := "seriesWindows", fn := fun _ => fun
  | [d1, d2, d3] => { results := [.lit (.bool false)], args := [d1, d2, d3] }
  | _ => none }
def SeriesWindowsWrongFalsely : Prop := seriesWindowsRow.holds Try.pinned (OpenSpec.ofChange seriesWindowsWrong)

/-- 'sleuthlaw43.SeriesAdds': WHATEVER THE INPUT: true; the input reads as it did. -/
def seriesAddsSpec : ChangeSpec := { name := "seriesAdds", fn := fun _ => fun
  | [d1, d2, d3] => { results := [.lit (.bool true)], args := [d1, d2, d3] }
  | _ => none }
def seriesAddsRow : OpenClaim := { program := "ytbgddblfalahfaa", sum := "e05126b4ac2f07907cfc3f2e96fc09dba4a1492849518f08f5802f055026f85e", func := "sleuth/sleuthlaw43.SeriesAdds", spec := "seriesAdds", unfollowed := true, recurses := true, apart := false }
def SeriesAddsSaid : Prop := seriesAddsRow.holds Try.pinned (OpenSpec.ofChange seriesAddsSpec)

/-- ITS FALSE NEIGHBOUR: 'it returns false'. Refute it at one input. -/
def seriesAddsWrong : ChangeSpec := { name := "seriesAdds", fn := fun _ => fun
  | [d1, d2, d3] => { results := [.lit (.bool false)], args := [d1, d2, d3] }
  | _ => none }
def SeriesAddsWrongFalsely : Prop := seriesAddsRow.holds Try.pinned (OpenSpec.ofChange seriesAddsWrong)

/- THE SECOND FORM. 'bulk': how many values and letters a reading holds, each counted each time it is reached (what is shared counts as often as it is met; a slice's spare places count too). A statement '..UptoSaid' is the law's where the arguments, and the package variables that the reading takes, are together of bulk at most 1048576: NARROWER than '..Said'. Prove '..Said' where nothing that the law and all that it calls make is longer than what came in: it says more and counts as full. Else prove '..UptoSaid'. A law counts once. -/
mutual
def uptoBulk {H : Type} : DataW H → Nat
  | .lit (.string bytes) => bytes.length + 1
  | .lit _ => 1
  | .nil => 1
  | .ptr d => uptoBulk d + 1
  | .slice elems spare => uptoBulkAll elems + uptoBulkAll spare + 1
  | .agg parts => uptoBulkAll parts + 1
  | .iface _ d => uptoBulk d + 1
  | .map entries => uptoBulkEntries entries + 1
  | .held _ => 1
def uptoBulkAll {H : Type} : List (DataW H) → Nat
  | [] => 0
  | d :: r => uptoBulk d + uptoBulkAll r
def uptoBulkEntries {H : Type} : List (Lit × DataW H) → Nat
  | [] => 0
  | x :: r => uptoBulkEntry x + uptoBulkEntries r
def uptoBulkEntry {H : Type} : Lit × DataW H → Nat
  | (.string bytes, d) => bytes.length + uptoBulk d + 1
  | (_, d) => uptoBulk d + 1
 end
def uptoSmall : (H : Type) → List (DataW H) → Bool := fun _ ds => decide (uptoBulkAll ds ≤ 1048576)
def OpenSpec.upto (s : _root_.Go.ChangeSpec) : _root_.Go.OpenSpec := { _root_.Go.OpenSpec.ofChange s with cond := some uptoSmall }

/-- 'sleuthlaw43.SeriesQuantiles', WHERE WHAT IT READS IS OF BULK AT MOST 1048576: true; the input reads as it did. -/
def seriesQuantilesUptoRow : OpenClaim := { program := "ytbgddblfalahfaa", sum := "e05126b4ac2f07907cfc3f2e96fc09dba4a1492849518f08f5802f055026f85e", func := "sleuth/sleuthlaw43.SeriesQuantiles", spec := "seriesQuantiles", unfollowed := true, recurses := true, apart := false, narrowed := true }
def SeriesQuantilesUptoSaid : Prop := seriesQuantilesUptoRow.holds Try.pinned (OpenSpec.upto seriesQuantilesSpec)

/-- 'sleuthlaw43.SeriesUntouched', WHERE WHAT IT READS IS OF BULK AT MOST 1048576: true; the input reads as it did. -/
def seriesUntouchedUptoRow : OpenClaim := { program := "ytbgddblfalahfaa", sum := "e05126b4ac2f07907cfc3f2e96fc09dba4a1492849518f08f5802f055026f85e", func := "sleuth/sleuthlaw43.SeriesUntouched", spec := "seriesUntouched", unfollowed := true, recurses := true, apart := false, narrowed := true }
def SeriesUntouchedUptoSaid : Prop := seriesUntouchedUptoRow.holds Try.pinned (OpenSpec.upto seriesUntouchedSpec)

/-- 'sleuthlaw43.SeriesRates', WHERE WHAT IT READS IS OF BULK AT MOST 1048576: true; the input reads as it did. -/
def seriesRatesUptoRow : OpenClaim := { program := "ytbgddblfalahfaa", sum := "e05126b4ac2f07907cfc3f2e96fc09dba4a1492849518f08f5802f055026f85e", func := "sleuth/sleuthlaw43.SeriesRates", spec := "seriesRates", unfollowed := true, recurses := true, apart := false, narrowed := true }
def SeriesRatesUptoSaid : Prop := seriesRatesUptoRow.holds Try.pinned (OpenSpec.upto seriesRatesSpec)

/-- 'sleuthlaw43.SeriesChanges', WHERE WHAT IT READS IS OF BULK AT MOST 1048576: true; the input reads as it did. -/
def seriesChangesUptoRow : OpenClaim := { program := "ytbgddblfalahfaa", sum := "e05126b4ac2f07907cfc3f2e96fc09dba4a1492849518f08f5802f055026f85e", func := "sleuth/sleuthlaw43.SeriesChanges", spec := "seriesChanges", unfollowed := true, recurses := true, apart := false, narrowed := true }
def SeriesChangesUptoSaid : Prop := seriesChangesUptoRow.holds Try.pinned (OpenSpec.upto seriesChangesSpec)

/-- 'sleuthlaw43.SeriesChecks', WHERE WHAT IT READS IS OF BULK AT MOST 1048576: true; the input reads as it did. -/
def seriesChecksUptoRow : OpenClaim := { program := "ytbgddblfalahfaa", sum := "e05126b4ac2f07907cfc3f2e96fc09dba4a1492849518f08f5802f055026f85e", func := "sleuth/sleuthlaw43.SeriesChecks", spec := "seriesChecks", unfollowed := true, recurses := true, apart := false, narrowed := true }
def SeriesChecksUptoSaid : Prop := seriesChecksUptoRow.holds Try.pinned (OpenSpec.upto seriesChecksSpec)

/-- 'sleuthlaw43.SeriesMeasures', WHERE WHAT IT READS IS OF BULK AT MOST 1048576: true; the input reads as it did. -/
def seriesMeasuresUptoRow : OpenClaim := { program := "ytbgddblfalahfaa", sum := "e05126b4ac2f07907cfc3f2e96fc09dba4a1492849518f08f5802f055026f85e", func := "sleuth/sleuthlaw43.SeriesMeasures", spec := "seriesMeasures", unfollowed := true, recurses := true, apart := false, narrowed := true }
def SeriesMeasuresUptoSaid : Prop := seriesMeasuresUptoRow.holds Try.pinned (OpenSpec.upto seriesMeasuresSpec)

/-- 'sleuthlaw43.SeriesErrors', WHERE WHAT IT READS IS OF BULK AT MOST 1048576: true; the input reads as it did. -/
def seriesErrorsUptoRow : OpenClaim := { program := "ytbgddblfalahfaa", sum := "e05126b4ac2f07907cfc3f2e96fc09dba4a1492849518f08f5802f055026f85e", func := "sleuth/sleuthlaw43.SeriesErrors", spec := "seriesErrors", unfollowed := true, recurses := true, apart := false, narrowed := true }
def SeriesErrorsUptoSaid : Prop := seriesErrorsUptoRow.holds Try.pinned (OpenSpec.upto seriesErrorsSpec)

/-- 'sleuthlaw43.SeriesJoins', WHERE WHAT IT READS IS OF BULK AT MOST 1048576: true; the input reads as it did. -/
def seriesJoinsUptoRow : OpenClaim := { program := "ytbgddblfalahfaa", sum := "e05126b4ac2f07907cfc3f2e96fc09dba4a1492849518f08f5802f055026f85e", func := "sleuth/sleuthlaw43.SeriesJoins", spec := "seriesJoins", unfollowed := true, recurses := true, apart := false, narrowed := true }
def SeriesJoinsUptoSaid : Prop := seriesJoinsUptoRow.holds Try.pinned (OpenSpec.upto seriesJoinsSpec)

/-- 'sleuthlaw43.SeriesSums', WHERE WHAT IT READS IS OF BULK AT MOST 1048576: true; the input reads as it did. -/
def seriesSumsUptoRow : OpenClaim := { program := "ytbgddblfalahfaa", sum := "e05126b4ac2f07907cfc3f2e96fc09dba4a1492849518f08f5802f055026f85e", func := "sleuth/sleuthlaw43.SeriesSums", spec := "seriesSums", unfollowed := true, recurses := true, apart := false, narrowed := true }
def SeriesSumsUptoSaid : Prop := seriesSumsUptoRow.holds Try.pinned (OpenSpec.upto seriesSumsSpec)

/-- 'sleuthlaw43.SeriesWindows', WHERE WHAT IT READS IS OF BULK AT MOST 1048576: true; the input reads as it did. -/
def seriesWindowsUptoRow : OpenClaim := { program := "ytbgddblfalahfaa", sum := "e05126b4ac2f07907cfc3f2e96fc09dba4a1492849518f08f5802f055026f85e", func := "sleuth/sleuthlaw43.SeriesWindows", spec := "seriesWindows", unfollowed := true, recurses := true, apart := false, narrowed := true }
def SeriesWindowsUptoSaid : Prop := seriesWindowsUptoRow.holds Try.pinned (OpenSpec.upto seriesWindowsSpec)

/-- 'sleuthlaw43.SeriesAdds', WHERE WHAT IT READS IS OF BULK AT MOST 1048576: true; the input reads as it did. -/
def seriesAddsUptoRow : OpenClaim := { program := "ytbgddblfalahfaa", sum := "e05126b4ac2f07907cfc3f2e96fc09dba4a1492849518f08f5802f055026f85e", func := "sleuth/sleuthlaw43.SeriesAdds", spec := "seriesAdds", unfollowed := true, recurses := true, apart := false, narrowed := true }
def SeriesAddsUptoSaid : Prop := seriesAddsUptoRow.holds Try.pinned (OpenSpec.upto seriesAddsSpec)

end Rows
end Go.Proofs.Ytbgddblfalahfaa
