/- Arguments of the laws of layer 6, opened. Conditions: none. -/
import Derived.Test.YtbpihhaiechnbaaD8
import Derived.Test.YtbpihhaiechnbaaSlD
namespace Go.Proofs.Ytbpihhaiechnbaa
open Go Go.SL Go.RowKit
set_option linter.unusedVariables false
set_option linter.unusedSimpArgs false
set_option maxRecDepth 100000 in
theorem open_strs {H : Type} {enc : TypeId × Value → H} {W : World} {v : Value} {d : DataW H} {p : List MemPlace} (hval : Value.okWide Try.prog W .any 0 22 v) (h : DataW.Trod enc Try.prog W 0 (fun _ => true) true 22 v d p) :
    ∃ (a1 : Option Addr) (c1 : Nat) (l1 : List (ByteArray)), v = .slice a1 l1.length c1 ∧ Sl W [whole W] SL.encS 1 (.slice a1 l1.length c1) l1 ∧ (∀ p ∈ l1, (p.size ≤ maxLen)) := by
  obtain ⟨a0, n0, c0, rfl⟩ := Go.WideShapes.okWide_slice Try.underlying22 hval
  obtain ⟨d, hd, hc, hdeep⟩ := open_Trod (s := .slice 1 (.str)) (by kernel_rfl) h
  obtain ⟨a1, c1, l1, rfl, hl1⟩ := has_slice hd
  obtain ⟨l1, rfl, hb1⟩ := of_all (fun p : ByteArray => (.s p : D)) (fun p => (p.size ≤ maxLen)) l1 (fun d hd => by
      obtain ⟨y101, rfl, hy101⟩ := has_str (hl1 d hd)
      exact ⟨y101, rfl, hy101⟩)
  simp [Value.cells, encD] at hc
  obtain ⟨rfl, rfl, rfl⟩ := hc
  exact ⟨a0, c0, l1, by simp, Sl.conv (deep_sl hdeep) (fun _ => rfl), hb1⟩
-- PATTERN strs open|22|open_strs|⟨a1_#, c1_#, l1_#, rfl, h0_#, h1_#⟩
set_option maxRecDepth 100000 in
theorem open_codes {H : Type} {enc : TypeId × Value → H} {W : World} {v : Value} {d : DataW H} {p : List MemPlace} (hval : Value.okWide Try.prog W .any 0 31 v) (h : DataW.Trod enc Try.prog W 0 (fun _ => true) true 31 v d p) :
    ∃ (a1 : Option Addr) (c1 : Nat) (l1 : List (Int)), v = .slice a1 l1.length c1 ∧ Sl W [whole W] encZ 1 (.slice a1 l1.length c1) l1 ∧ (∀ p ∈ l1, (-9223372036854775808 ≤ p ∧ p ≤ 9223372036854775807)) := by
  obtain ⟨a0, n0, c0, rfl⟩ := Go.WideShapes.okWide_slice Try.underlying31 hval
  obtain ⟨d, hd, hc, hdeep⟩ := open_Trod (s := .slice 1 (.int .i64)) (by kernel_rfl) h
  obtain ⟨a1, c1, l1, rfl, hl1⟩ := has_slice hd
  obtain ⟨l1, rfl, hb1⟩ := of_all (fun p : Int => (.z .i64 p : D)) (fun p => (-9223372036854775808 ≤ p ∧ p ≤ 9223372036854775807)) l1 (fun d hd => by
      obtain ⟨y101, rfl, hy101⟩ := has_int (hl1 d hd)
      exact ⟨y101, rfl, wf_i64 hy101⟩)
  simp [Value.cells, encD] at hc
  obtain ⟨rfl, rfl, rfl⟩ := hc
  exact ⟨a0, c0, l1, by simp, Sl.conv (deep_sl hdeep) (fun _ => rfl), hb1⟩
-- PATTERN codes open|31|open_codes|⟨a1_#, c1_#, l1_#, rfl, h0_#, h1_#⟩
theorem Sl.bytes {σ : World} {F : List Res} {a : Option Addr} {c : Nat} {l : List ByteArray} (h : Sl σ F SL.encS 1 (.slice a l.length c) l) : Sl σ F encT 1 (.slice a (l.map fun s => s.data.toList).length c) (l.map fun s => s.data.toList) := by
  obtain ⟨h1, h2⟩ := h
  rw [List.length_map]
  have : (l.map fun s => s.data.toList).map encT = l.map SL.encS := by
    rw [List.map_map]; exact List.map_congr_left fun s _ => by simp only [Function.comp, encT, SL.encS, str_self]
  refine ⟨h1.mono fun w h => ?_, by rw [List.length_map]; exact h2⟩
  unfold slT at h ⊢; rw [this]; exact h
theorem open_strsT {H : Type} {enc : TypeId × Value → H} {W : World} {v : Value} {d : DataW H} {p : List MemPlace} (hval : Value.okWide Try.prog W .any 0 22 v) (h : DataW.Trod enc Try.prog W 0 (fun _ => true) true 22 v d p) :
    ∃ (a : Option Addr) (c : Nat) (l : List (List UInt8)), v = .slice a l.length c ∧ Sl W [whole W] encT 1 (.slice a l.length c) l := by
  obtain ⟨a, c, l, rfl, h0, _⟩ := open_strs hval h
  exact ⟨a, c, _, by rw [List.length_map], Sl.bytes h0⟩
theorem fn_str {P : Program} {σ : World} {F : List Res} {f : Nat} {xs ys : List Value} {R : RL} {S : Value → RL → Prop} (s : ByteArray) (h : FnT P σ F f (xs ++ .string (str s.data.toList) :: ys) R S) : FnT P σ F f (xs ++ .string s :: ys) R S := by rwa [str_self] at h
end Go.Proofs.Ytbpihhaiechnbaa
