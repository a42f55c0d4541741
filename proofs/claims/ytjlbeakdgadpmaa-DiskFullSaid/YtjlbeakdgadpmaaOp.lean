/- Arguments of the laws of layer 26, opened: numbers (the operations are opened in D15). Conditions: none. -/
import Derived.Test.YtjlbeakdgadpmaaD15
import Derived.Test.YtjlbeakdgadpmaaD16
import Derived.Test.YtjlbeakdgadpmaaD17
import Derived.Test.YtjlbeakdgadpmaaD18
namespace Go.Proofs.Ytjlbeakdgadpmaa
open Go Go.SL Go.RowKit
set_option linter.unusedVariables false
set_option linter.unusedSimpArgs false
set_option maxRecDepth 100000 in
theorem open_names2 {H : Type} {enc : TypeId × Value → H} {W : World} {v : Value} {d : DataW H} {p : List MemPlace} (hval : Value.okWide Try.prog W .any 0 56 v) (h : DataW.Trod enc Try.prog W 0 (fun _ => true) true 56 v d p) :
    ∃ (x2 : Int) (x3 : Int), v = .agg #[.int .u8 x2, .int .u8 x3] ∧ (0 ≤ x2 ∧ x2 ≤ 255) ∧ (0 ≤ x3 ∧ x3 ≤ 255) := by
  obtain ⟨cs, rfl⟩ := okWide_agg (ss := [.int .u8, .int .u8]) (by kernel_rfl) hval
  obtain ⟨d, hd, hc, hdeep⟩ := open_Trod (s := .row [.int .u8, .int .u8]) (by kernel_rfl) h
  obtain ⟨dsx1, rfl, hdsx1⟩ := has_row hd
  obtain ⟨ex1_0, rx1_0, rfl, qx1_0, hdsx1⟩ := has_cons hdsx1
  obtain ⟨ex1_1, rx1_1, rfl, qx1_1, hdsx1⟩ := has_cons hdsx1
  obtain rfl := has_nil hdsx1
  obtain ⟨x2, rfl, hx2⟩ := has_int qx1_0
  obtain ⟨x3, rfl, hx3⟩ := has_int qx1_1
  refine ⟨x2, x3, ?_, wf_u8 hx2, wf_u8 hx3⟩
  congr 1
  apply Array.ext'
  simp only [Value.cells] at hc
  rw [hc]
  simp [encD, encDs]
-- PATTERN names2 open|56|open_names2|⟨x2_#, x3_#, rfl, h0_#, h1_#⟩
set_option maxRecDepth 100000 in
theorem open_ints {H : Type} {enc : TypeId × Value → H} {W : World} {v : Value} {d : DataW H} {p : List MemPlace} (hval : Value.okWide Try.prog W .any 0 41 v) (h : DataW.Trod enc Try.prog W 0 (fun _ => true) true 41 v d p) :
    ∃ (a1 : Option Addr) (c1 : Nat) (l1 : List (Int)), v = .slice a1 l1.length c1 ∧ Sl W [whole W] SL.encZ 1 (.slice a1 l1.length c1) l1 ∧ (∀ p ∈ l1, (-9223372036854775808 ≤ p ∧ p ≤ 9223372036854775807)) := by
  obtain ⟨a0, n0, c0, rfl⟩ := Go.WideShapes.okWide_slice Try.underlying41 hval
  obtain ⟨d, hd, hc, hdeep⟩ := open_Trod (s := .slice 1 (.int .i64)) (by kernel_rfl) h
  obtain ⟨a1, c1, l1, rfl, hl1⟩ := has_slice hd
  obtain ⟨l1, rfl, hb1⟩ := of_all (fun p : Int => (.z .i64 p : D)) (fun p => (-9223372036854775808 ≤ p ∧ p ≤ 9223372036854775807)) l1 (fun d hd => by
      obtain ⟨y101, rfl, hy101⟩ := has_int (hl1 d hd)
      exact ⟨y101, rfl, wf_i64 hy101⟩)
  simp [Value.cells, encD] at hc
  obtain ⟨rfl, rfl, rfl⟩ := hc
  exact ⟨a0, c0, l1, by simp, Sl.conv (deep_sl hdeep) (fun _ => rfl), hb1⟩
-- PATTERN ints open|41|open_ints|⟨a1_#, c1_#, l1_#, rfl, h0_#, h1_#⟩
end Go.Proofs.Ytjlbeakdgadpmaa
