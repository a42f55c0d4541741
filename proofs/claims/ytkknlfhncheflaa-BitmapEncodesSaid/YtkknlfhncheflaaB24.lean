/- Arguments that are lists of runs (layer 5). Conditions: none. -/
import Derived.Test.YtkknlfhncheflaaB23
namespace Go.Proofs.Ytkknlfhncheflaa
open Go Go.SL Go.RowKit Go.BitM Go.WideShapes
set_option linter.unusedVariables false
set_option linter.unusedSimpArgs false
set_option maxRecDepth 100000 in
theorem open_runs {H : Type} {enc : TypeId × Value → H} {W : World} {v : Value} {d : DataW H} {p : List MemPlace} (hval : Value.okWide Try.prog W .any 0 24 v) (h : DataW.Trod enc Try.prog W 0 (fun _ => true) true 24 v d p) :
    ∃ a c l, v = .slice a l.length c ∧ Sl W [whole W] encRun 2 (.slice a l.length c) l := by
  obtain ⟨a, n, c, rfl⟩ := okWide_slice Try.underlying24 hval
  obtain ⟨d, hd, hc, hdeep⟩ := open_Trod (s := .slice 2 (.row [.int .i64, .int .i64])) (by kernel_rfl) h
  obtain ⟨a', c', l, rfl, hl⟩ := has_slice hd
  obtain ⟨l, rfl, hl'⟩ := of_all (fun p : Run => D.row [.z .i64 p.1, .z .i64 p.2]) (fun p => True) l (fun d hd => by
    obtain ⟨ds, rfl, hds⟩ := has_row (hl d hd)
    obtain ⟨d0, r0, rfl, h0, hds⟩ := has_cons hds
    obtain ⟨d1, r1, rfl, h1, hds⟩ := has_cons hds
    obtain rfl := has_nil hds
    obtain ⟨x, rfl, hx⟩ := has_int h0
    obtain ⟨y, rfl, hy⟩ := has_int h1
    exact ⟨(x, y), rfl, trivial⟩)
  simp [Value.cells, encD] at hc
  obtain ⟨rfl, rfl, rfl⟩ := hc
  exact ⟨a, c, l, rfl, Sl.conv (deep_sl hdeep) (fun _ => rfl)⟩
end Go.Proofs.Ytkknlfhncheflaa
