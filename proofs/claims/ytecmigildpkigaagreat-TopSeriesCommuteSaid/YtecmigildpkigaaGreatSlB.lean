/- From contracts to rows: the memory of the start as one resource. Conditions: none. -/
import Derived.Test.YtecmigildpkigaaGreatSlA
import Derived.ProofKit
import Derived.OpenShut
import Derived.ShutString
import Derived.ChangeOld
import Derived.Below
import Derived.SizedLaws
namespace Go.SL
open Go.RowKit
set_option linter.unusedVariables false
set_option linter.unusedSimpArgs false
/-- All memory of the start, as it was. -/
def whole (W : World) : Res := fun m => m = fun i => W.heap[i]?
theorem own_whole (W : World) : Own W [whole W] W := ⟨rfl, rfl, rfl, [(whole W, fun i => W.heap[i]?)], rfl, by simp [whole, MSub], by simp⟩
theorem below_whole {W w : World} {F : List Res} (ho : Own W F w) (hF : whole W ∈ F) : Below W.heap.size W w := by
  obtain ⟨m, hm, hs⟩ := ho.mem_of hF
  unfold whole at hm; subst hm
  have hb : ∀ k, k < W.heap.size → w.heap[k]? = W.heap[k]? := fun k hk => by
    have h1 := Array.getElem?_eq_getElem hk
    rw [h1]; exact hs k _ h1
  refine ⟨ho.os, ho.tape, ho.output, ?_, hb⟩
  rcases Nat.eq_zero_or_pos W.heap.size with h | h
  · omega
  · have h1 := hb (W.heap.size - 1) (by omega)
    rw [Array.getElem?_eq_getElem (by omega : W.heap.size - 1 < W.heap.size)] at h1
    have := (Array.getElem?_eq_some_iff.1 h1).1
    omega
theorem ent_old {W : World} {φ : World → Prop} (h : ∀ w, Below W.heap.size W w → φ w) : Ent W [whole W] φ := fun w ho => h w (below_whole ho (by simp))
theorem cell_lt {W : World} {p : Addr} {v : Value} (h : W.cell? p = some v) : p.block < W.heap.size := by
  rcases Nat.lt_or_ge p.block W.heap.size with h1 | h1
  · exact h1
  · unfold World.cell? at h
    rw [Array.getElem?_eq_none h1] at h
    simp at h
theorem range_old {W w : World} (hb : Below W.heap.size W w) {b o : Nat} {cs : List Value} (h : W.rangeAt b o cs) : w.rangeAt b o cs := fun i v hi => by
  have h1 := h i v hi
  rw [hb.cell (cell_lt h1)]; exact h1
theorem sl_old {W : World} {α : Type} {enc : α → List Value} {k : Nat} {v : Value} {l : List α} (h : slT enc k v l W) : Sl W [whole W] enc k v l :=
  ⟨ent_old fun w hb => by
    obtain ⟨h1, h2, h3⟩ := h
    refine ⟨h1, h2, ?_⟩
    rcases h3 with h3 | ⟨b, o, cap, h4, h5, h6⟩
    · exact .inl h3
    · exact .inr ⟨b, o, cap, h4, h5, range_old hb h6⟩, by simpa using h.2.1⟩
theorem law_calls {P : Program} {f : Nat} {args : List Value} {W : World} (h : FnT P W [whole W] f args [] (fun u ρ => u = .bool true ∧ ρ = [])) :
    Calls P f args.toArray W fun e w' => e = .returned (.bool true) ∧ Below W.heap.size W w' :=
  (h W (own_whole W)).mono fun e w' ⟨v, ρ, h1, ⟨h2, h3⟩, ho⟩ => by
    subst h2; subst h3
    exact ⟨h1, below_whole ho (by simp [rs])⟩
theorem i64_bd {x : Int} (h : (Lit.int .i64 x).wf = true) : -9223372036854775808 ≤ x ∧ x ≤ 9223372036854775807 := by
  simpa [Lit.wf, IntKind.min, IntKind.max, IntKind.signed, IntKind.bits] using h
/-- A row of numbers that was there at the start. -/
def IsRow (k : IntKind) (w : World) (a : Option Addr) (len cap : Nat) (zs : List Int) : Prop :=
  (a = none ∧ len = 0 ∧ cap = 0 ∧ zs = []) ∨
  ∃ x, a = some x ∧ len ≤ cap ∧ cap ≤ maxLen ∧ zs.length = cap ∧ (∀ i, i < zs.length → w.cell? (x.add i) = some (.int k (zs.getD i 0))) ∧ ∀ n ∈ zs, (Lit.int k n).wf = true
theorem sl_row {k : IntKind} {W : World} {a : Option Addr} {len cap : Nat} {zs : List Int} (h : IsRow k W a len cap zs) :
    ∃ l : List Int, l.length = len ∧ (∀ n ∈ l, (Lit.int k n).wf = true) ∧ Sl W [whole W] (fun x : Int => [Value.int k x]) 1 (.slice a l.length cap) l := by
  rcases h with ⟨rfl, rfl, rfl, rfl⟩ | ⟨x, rfl, h1, h2, h3, h4, h5⟩
  · exact ⟨[], rfl, by simp, sl_old ⟨by simp, by simp, .inl ⟨_, _, rfl, rfl⟩⟩⟩
  · refine ⟨zs.take len, by rw [List.length_take]; omega, fun n hn => h5 n (List.mem_of_mem_take hn), sl_old ⟨fun c hc => (by obtain ⟨q, _, rfl⟩ := List.mem_map.1 hc; rfl), by simp; omega, ?_⟩⟩
    rcases Nat.eq_zero_or_pos len with h0 | h0
    · subst h0; exact .inl ⟨some x, cap, by simp, by simp⟩
    · have hsp : x.spot = none := by
        have := h4 0 (by omega)
        unfold World.cell? at this
        split at this
        · by_cases hx : x.spot.isSome
          · have : (x.add 0).spot = x.spot := by unfold Addr.add; split <;> simp_all
            simp_all
          · simpa using hx
        · simp at this
      obtain ⟨b, o, s⟩ := x
      simp only at hsp; subst hsp
      refine .inr ⟨b, o, cap, by simp, by simp; omega, fun i v hi => ?_⟩
      have hfl : ((zs.take len).map fun x : Int => [Value.int k x]).flatten = (zs.take len).map (Value.int k) := by
        generalize zs.take len = l
        induction l with
        | nil => rfl
        | cons x l ih => simp only [List.map_cons, List.flatten_cons, List.cons_append, List.nil_append]; exact congrArg _ ih
      rw [hfl, List.getElem?_map, List.getElem?_take] at hi
      have hil : i < zs.length := by
        rcases Nat.lt_or_ge i zs.length with h | h
        · exact h
        · rw [List.getElem?_eq_none h] at hi; simp at hi
      have h6 := h4 i hil
      rw [Addr.add_mid] at h6
      rw [h6]
      split at hi
      · rw [List.getElem?_eq_getElem hil] at hi
        simp at hi
        rw [← hi, List.getD_eq_getElem?_getD, List.getElem?_eq_getElem hil]; rfl
      · simp at hi
end Go.SL
