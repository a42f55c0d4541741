/- Owned slices out of the kit's contracts that give a new row. Conditions: none. -/
import Derived.Test.YtecmigildpkigaaGreatSlB
import Derived.Laws.AppendOwn
namespace Go.SL
open Go.RowKit
set_option linter.unusedVariables false
set_option linter.unusedSimpArgs false
theorem heap_lt {w : World} {i : Nat} {o : Obj} (h : w.heap[i]? = some o) : i < w.heap.size := by
  rcases Nat.lt_or_ge i w.heap.size with h1 | h1
  · exact h1
  · rw [Array.getElem?_eq_none h1] at h; simp at h
theorem own_below {σ : World} {F : List Res} {w w' : World} (ho : Own σ F w) (hb : Below w.heap.size w w') : Own σ F w' := by
  obtain ⟨h1, h2, h3, h4, h5⟩ := hb
  exact ho.ext h1 h2 h3 fun i o hi => (h5 i (heap_lt hi)).trans hi
theorem own_new {σ : World} {F : List Res} {w w' : World} {g : Nat} {o : Obj} {r : Res} (ho : Own σ F w) (hb : Below w.heap.size w w') (hg : w'.heap[g]? = some o) (hge : w.heap.size ≤ g) (hr : r (single g o)) : Own σ (r :: F) w' := by
  have ho' := own_below ho hb
  obtain ⟨_, _, _, l, hl, hm, hd⟩ := ho
  obtain ⟨h1, h2, h3, h4, h5⟩ := hb
  refine ⟨ho'.os, ho'.tape, ho'.output, (r, single g o) :: l, by simp [hl], ?_, List.pairwise_cons.2 ⟨?_, hd⟩⟩
  · intro p hp
    rcases List.mem_cons.1 hp with rfl | hp
    · refine ⟨hr, fun i o' hi => ?_⟩
      by_cases e : i = g
      · subst e; simp [single] at hi; subst hi; exact hg
      · simp [single, e] at hi
    · exact ⟨(hm p hp).1, fun i o' hi => (h5 i (heap_lt ((hm p hp).2 i o' hi))).trans ((hm p hp).2 i o' hi)⟩
  · intro q hq i
    by_cases hi : i = g
    · subst hi
      refine .inr ?_
      cases hqi : q.2 i with
      | none => rfl
      | some o' => have := heap_lt ((hm q hq).2 i o' hqi); omega
    · exact .inl (by simp [single, hi])
/-- A new row of the kit's is an owned slice. -/
theorem own_row {σ : World} {F : List Res} {w w' : World} {α : Type} {enc : α → List Value} {E k : Nat} {v : Value} {l : List α} (ho : Own σ F w) (hb : Below w.heap.size w w') (hr : w'.ownsRow w.heap.size E k v l.length (l.map enc).flatten) (hk : ∀ a, (enc a).length = k) (hm : l.length ≤ maxLen) :
    ∃ a c, v = .slice a l.length c ∧ Own σ (slW E enc k (.slice a l.length c) l :: F) w' := by
  obtain ⟨_, h⟩ := hr
  have hk' : ∀ c ∈ l.map enc, c.length = k := fun c hc => by obtain ⟨x, _, rfl⟩ := List.mem_map.1 hc; exact hk x
  rcases h with ⟨rfl, hn⟩ | ⟨g, cap, cur, rfl, hge, hg, h1, h2, h3, h4⟩
  · have : l = [] := List.eq_nil_of_length_eq_zero hn
    subst this
    exact ⟨none, 0, rfl, (own_below ho hb).emp (slO_nil E k)⟩
  · exact ⟨_, _, rfl, own_new ho hb hg hge ⟨hk', by simpa using hm, .inr ⟨g, cap, cur, by simp, rfl, by simpa using h1, h2, h3, by simpa using h4⟩⟩⟩
end Go.SL
