/- Dictionaries of strings, without a program: strictly increasing lists of byte strings, the place of a string, insertion, sorting and compacting. Conditions: none. -/
import Derived.Test.YtbpihhaiechnbaaSl7
import Derived.Lib.SlicesCompact
namespace Go.DicM
open Go
set_option linter.unusedVariables false
set_option linter.unusedSimpArgs false
abbrev Bs := List UInt8
theorem lt_irrefl (a : Bs) : ¬ a < a := List.lt_irrefl a
theorem lt_trans {a b c : Bs} (h1 : a < b) (h2 : b < c) : a < c := List.lt_trans h1 h2
theorem lt_asymm {a b : Bs} (h : a < b) : ¬ b < a := List.lt_asymm h
theorem le_iff {a b : Bs} : a ≤ b ↔ ¬ b < a := List.not_lt.symm
theorem lt_tri (a b : Bs) : a < b ∨ a = b ∨ b < a := by
  by_cases h1 : a < b
  · exact .inl h1
  · by_cases h2 : b < a
    · exact .inr (.inr h2)
    · exact .inr (.inl (List.le_antisymm (List.not_lt.1 h2) (List.not_lt.1 h1)))
theorem lt_le {a b : Bs} (h : a < b) : a ≤ b := le_iff.2 (lt_asymm h)
theorem le_lt_trans {a b c : Bs} (h1 : a ≤ b) (h2 : b < c) : a < c := List.lt_of_le_of_lt h1 h2
theorem lt_le_trans {a b c : Bs} (h1 : a < b) (h2 : b ≤ c) : a < c := by
  rcases lt_tri a c with h | h | h
  · exact h
  · subst h; exact absurd h1 (le_iff.1 h2)
  · exact absurd (lt_trans h h1) (le_iff.1 h2)
theorem ne_of_lt {a b : Bs} (h : a < b) : a ≠ b := fun e => lt_irrefl b (e ▸ h)
theorem lt_of_le_ne {a b : Bs} (h : a ≤ b) (hn : a ≠ b) : a < b := by
  rcases lt_tri a b with h1 | h1 | h1
  · exact h1
  · exact absurd h1 hn
  · exact absurd h1 (le_iff.1 h)
/-- Strictly increasing. -/
abbrev Inc (l : List Bs) : Prop := l.Pairwise (· < ·)
theorem Inc.snoc {l : List Bs} {x : Bs} (h : Inc l) (hx : ∀ y ∈ l, y < x) : Inc (l ++ [x]) := List.pairwise_append.2 ⟨h, List.pairwise_singleton _ _, fun a ha b hb => by simp at hb; subst hb; exact hx a ha⟩
theorem Inc.ext : ∀ {a b : List Bs}, Inc a → Inc b → (∀ x, x ∈ a ↔ x ∈ b) → a = b
  | [], [], _, _, _ => rfl
  | [], y :: b, _, _, h => by have := (h y).2 (by simp); simp at this
  | x :: a, [], _, _, h => by have := (h x).1 (by simp); simp at this
  | x :: a, y :: b, ha, hb, h => by
    obtain ⟨ha1, ha2⟩ := List.pairwise_cons.1 ha
    obtain ⟨hb1, hb2⟩ := List.pairwise_cons.1 hb
    have hxy : x = y := by
      rcases lt_tri x y with h1 | h1 | h1
      · rcases List.mem_cons.1 ((h x).1 (by simp)) with h2 | h2
        · exact h2
        · exact absurd (lt_trans h1 (hb1 x h2)) (lt_irrefl x)
      · exact h1
      · rcases List.mem_cons.1 ((h y).2 (by simp)) with h2 | h2
        · exact h2.symm
        · exact absurd (lt_trans h1 (ha1 y h2)) (lt_irrefl y)
    subst hxy
    refine congrArg (x :: ·) (Inc.ext ha2 hb2 fun z => ?_)
    have hz := h z
    simp only [List.mem_cons] at hz
    constructor
    · intro hza
      rcases hz.1 (.inr hza) with rfl | h2
      · exact absurd (ha1 z hza) (lt_irrefl z)
      · exact h2
    · intro hzb
      rcases hz.2 (.inr hzb) with rfl | h2
      · exact absurd (hb1 z hzb) (lt_irrefl z)
      · exact h2
theorem Inc.get {l : List Bs} (h : Inc l) {i j : Nat} {x y : Bs} (hi : l[i]? = some x) (hj : l[j]? = some y) (hij : i < j) : x < y := by
  obtain ⟨h1, rfl⟩ := List.getElem?_eq_some_iff.1 hi
  obtain ⟨h2, rfl⟩ := List.getElem?_eq_some_iff.1 hj
  exact List.pairwise_iff_getElem.1 h i j h1 h2 hij
theorem Inc.of_next {l : List Bs} (h : ∀ i x y, l[i]? = some x → l[i + 1]? = some y → x < y) : Inc l := by
  rw [Inc, List.pairwise_iff_getElem]
  intro i j hi hj hij
  induction j with
  | zero => omega
  | succ j ih =>
    have h1 := h j _ _ (List.getElem?_eq_getElem (by omega)) (List.getElem?_eq_getElem hj)
    rcases Nat.lt_or_eq_of_le (Nat.le_of_lt_succ hij) with h2 | h2
    · exact lt_trans (ih (by omega) h2) h1
    · subst h2; exact h1
theorem Inc.inj {l : List Bs} (h : Inc l) {i j : Nat} {x : Bs} (hi : l[i]? = some x) (hj : l[j]? = some x) : i = j := by
  rcases Nat.lt_trichotomy i j with h1 | h1 | h1
  · exact absurd (h.get hi hj h1) (lt_irrefl x)
  · exact h1
  · exact absurd (h.get hj hi h1) (lt_irrefl x)
/-- How many strings at the beginning are less. -/
def lower (d : List Bs) (s : Bs) : Nat := (d.takeWhile fun x => decide (x < s)).length
theorem lower_le (d : List Bs) (s : Bs) : lower d s ≤ d.length := by
  unfold lower
  exact (List.takeWhile_sublist _).length_le
theorem lower_of : ∀ {d : List Bs} {s : Bs} {k : Nat}, k ≤ d.length → (∀ i x, i < k → d[i]? = some x → x < s) → (∀ x, d[k]? = some x → ¬ x < s) → lower d s = k
  | [], s, k, hk, h1, h2 => by simp at hk; subst hk; rfl
  | y :: d, s, 0, hk, h1, h2 => by
    have := h2 y rfl
    unfold lower; rw [List.takeWhile_cons, if_neg (by simpa using this)]; rfl
  | y :: d, s, k + 1, hk, h1, h2 => by
    have h3 := h1 0 y (by omega) rfl
    have := lower_of (d := d) (s := s) (k := k) (by simpa using hk) (fun i x hi hx => h1 (i + 1) x (by omega) (by simpa using hx)) (fun x hx => h2 x (by simpa using hx))
    unfold lower at this ⊢; rw [List.takeWhile_cons, if_pos (by simpa using h3), List.length_cons, this]
theorem lower_lt : ∀ {d : List Bs} {s : Bs} {i : Nat} {x : Bs}, i < lower d s → d[i]? = some x → x < s
  | [], s, i, x, h, hx => by simp at hx
  | y :: d, s, i, x, h, hx => by
    unfold lower at h
    rw [List.takeWhile_cons] at h
    split at h
    · rename_i hy
      cases i with
      | zero => simp at hx; subst hx; simpa using hy
      | succ i => exact lower_lt (d := d) (i := i) (by unfold lower; simpa using h) (by simpa using hx)
    · simp at h
theorem lower_ge : ∀ {d : List Bs} {s : Bs} {x : Bs}, d[lower d s]? = some x → ¬ x < s
  | [], s, x, hx => by simp at hx
  | y :: d, s, x, hx => by
    unfold lower at hx
    rw [List.takeWhile_cons] at hx
    split at hx
    · exact lower_ge (d := d) (by unfold lower; simpa using hx)
    · rename_i hy; simp at hx; subst hx; simpa using hy
theorem lower_ge' {d : List Bs} {s : Bs} (hd : Inc d) {i : Nat} {x : Bs} (hi : lower d s ≤ i) (hx : d[i]? = some x) : ¬ x < s := by
  have hlt := (List.getElem?_eq_some_iff.1 hx).1
  obtain ⟨y, hy⟩ : ∃ y, d[lower d s]? = some y := ⟨_, List.getElem?_eq_getElem (by omega)⟩
  have h1 := lower_ge hy
  rcases Nat.lt_or_eq_of_le hi with h2 | h2
  · exact fun h3 => h1 (lt_trans (hd.get hy hx h2) h3)
  · rw [← h2, hy] at hx; simp at hx; subst hx; exact h1
theorem lower_hit {d : List Bs} {s : Bs} (hd : Inc d) (h : s ∈ d) : d[lower d s]? = some s := by
  obtain ⟨i, hi, rfl⟩ := List.mem_iff_getElem.1 h
  have h1 : d[i]? = some d[i] := List.getElem?_eq_getElem hi
  have h2 : lower d d[i] = i := lower_of (by omega) (fun j x hj hx => hd.get hx h1 hj) (fun x hx => by rw [h1] at hx; simp at hx; subst hx; exact lt_irrefl _)
  rw [h2, h1]
/-- The code of a string. -/
def find (d : List Bs) (s : Bs) : Option Nat := if d[lower d s]? = some s then some (lower d s) else none
theorem find_mem {d : List Bs} {s : Bs} (hd : Inc d) : (find d s).isSome = true ↔ s ∈ d := by
  unfold find
  split
  · rename_i h; exact ⟨fun _ => List.mem_of_getElem? h, fun _ => rfl⟩
  · rename_i h; exact ⟨fun h' => by simp at h', fun h' => absurd (lower_hit hd h') h⟩
theorem find_some {d : List Bs} {s : Bs} {k : Nat} (h : find d s = some k) : d[k]? = some s := by
  unfold find at h; split at h
  · rename_i h1; simp at h; subst h; exact h1
  · simp at h
theorem find_get {d : List Bs} (hd : Inc d) {i : Nat} {s : Bs} (h : d[i]? = some s) : find d s = some i := by
  have h1 := lower_hit hd (List.mem_of_getElem? h)
  have := hd.inj h1 h
  unfold find; rw [if_pos h1, this]
/-- One more string, once. -/
def ins (d : List Bs) (s : Bs) : List Bs := if d[lower d s]? = some s then d else d.take (lower d s) ++ s :: d.drop (lower d s)
theorem ins_length (d : List Bs) (s : Bs) : (ins d s).length ≤ d.length + 1 := by
  unfold ins; split
  · omega
  · have := lower_le d s; simp; omega
theorem ins_spec {d : List Bs} {s : Bs} (hd : Inc d) : Inc (ins d s) ∧ ∀ x, x ∈ ins d s ↔ x ∈ d ∨ x = s := by
  unfold ins
  split
  · rename_i h
    refine ⟨hd, fun x => ⟨.inl, fun hx => ?_⟩⟩
    rcases hx with hx | rfl
    · exact hx
    · exact List.mem_of_getElem? h
  · rename_i h
    have hn : s ∉ d := fun hm => h (lower_hit hd hm)
    constructor
    · rw [Inc, List.pairwise_append]
      refine ⟨hd.sublist (List.take_sublist _ _), List.pairwise_cons.2 ⟨fun y hy => ?_, hd.sublist (List.drop_sublist _ _)⟩, fun x hx y hy => ?_⟩
      · obtain ⟨j, hj⟩ := List.mem_iff_getElem?.1 hy
        rw [List.getElem?_drop] at hj
        have := lower_ge' (s := s) hd (Nat.le_add_right _ _) hj
        rcases lt_tri s y with h1 | h1 | h1
        · exact h1
        · subst h1; exact absurd (List.mem_of_getElem? hj) hn
        · exact absurd h1 this
      · obtain ⟨i, hi⟩ := List.mem_iff_getElem?.1 hx
        rw [List.getElem?_take] at hi
        split at hi
        · rename_i hlt
          have h1 := lower_lt hlt hi
          rcases List.mem_cons.1 hy with rfl | hy
          · exact h1
          · obtain ⟨j, hj⟩ := List.mem_iff_getElem?.1 hy
            rw [List.getElem?_drop] at hj
            exact hd.get hi hj (by omega)
        · simp at hi
    · intro x
      rw [List.mem_append, List.mem_cons]
      have := List.mem_append.symm.trans (Iff.of_eq (congrArg (x ∈ ·) (List.take_append_drop (lower d s) d)))
      constructor
      · rintro (h1 | h1 | h1)
        · exact .inl (this.1 (.inl h1))
        · exact .inr h1
        · exact .inl (this.1 (.inr h1))
      · rintro (h1 | h1)
        · rcases this.2 h1 with h2 | h2
          · exact .inl h2
          · exact .inr (.inr h2)
        · exact .inr (.inl h1)
/-- The dictionary of some strings, behind a first one. -/
def build (d l : List Bs) : List Bs := l.foldl ins d
theorem build_snoc (d l : List Bs) (s : Bs) : build d (l ++ [s]) = ins (build d l) s := by unfold build; rw [List.foldl_append]; rfl
theorem build_spec : ∀ {l d : List Bs}, Inc d → Inc (build d l) ∧ ∀ x, x ∈ build d l ↔ x ∈ d ∨ x ∈ l
  | [], d, hd => ⟨hd, fun x => by simp [build]⟩
  | s :: l, d, hd => by
    obtain ⟨h1, h2⟩ := ins_spec (s := s) hd
    obtain ⟨h3, h4⟩ := build_spec (l := l) h1
    refine ⟨h3, fun x => (h4 x).trans ?_⟩
    rw [h2, List.mem_cons, or_assoc]
theorem build_length : ∀ (l d : List Bs), (build d l).length ≤ d.length + l.length
  | [], d => by simp [build]
  | s :: l, d => by
    have h1 := build_length l (ins d s)
    have h2 := ins_length d s
    show (build (ins d s) l).length ≤ _
    simp only [List.length_cons]; omega
/-- The library's sort. -/
def srt (l : List Bs) : List Bs := l.mergeSort fun x y => decide (x ≤ y)
theorem length_srt (l : List Bs) : (srt l).length = l.length := List.length_mergeSort l
theorem mem_srt {l : List Bs} {x : Bs} : x ∈ srt l ↔ x ∈ l := List.mem_mergeSort
theorem le_trans {a b c : Bs} (h1 : a ≤ b) (h2 : b ≤ c) : a ≤ c := le_iff.2 fun h => le_iff.1 h1 (by
  rcases lt_tri a b with h3 | h3 | h3
  · exact absurd (lt_trans h h3) (le_iff.1 h2)
  · subst h3; exact absurd h (le_iff.1 h2)
  · exact h3)
theorem srt_le (l : List Bs) : (srt l).Pairwise (· ≤ ·) := by
  have := List.pairwise_mergeSort (le := fun x y : Bs => decide (x ≤ y)) (fun a b c h1 h2 => by simp only [decide_eq_true_eq] at *; exact le_trans h1 h2) (fun a b => by
    simp only [Bool.or_eq_true, decide_eq_true_eq]
    rcases lt_tri a b with h | h | h
    · exact .inl (lt_le h)
    · subst h; exact .inl (le_iff.2 (lt_irrefl a))
    · exact .inr (lt_le h)) l
  exact this.imp fun h => by simpa using h
theorem compact_le (l : List Bs) : (Lib.compact l).length ≤ l.length := by
  unfold Lib.compact Lib.compactUpTo
  rw [List.length_map]
  exact Nat.le_trans (List.length_filter_le _ _) (by simp)
theorem take_snoc {α : Type} {l : List α} {i : Nat} {x : α} (h : l[i]? = some x) : l.take (i + 1) = l.take i ++ [x] := by rw [List.take_add_one, h]; rfl
theorem take_all {α : Type} {l : List α} {i : Nat} (h : ¬ i < l.length) : l.take i = l := List.take_of_length_le (by omega)
theorem compact_spec {l : List Bs} (hs : l.Pairwise (· ≤ ·)) : Inc (Lib.compact l) ∧ ∀ x, x ∈ Lib.compact l ↔ x ∈ l := by
  have key : ∀ m, m ≤ l.length → Inc (Lib.compactUpTo l.toArray m) ∧ (∀ x, x ∈ Lib.compactUpTo l.toArray m ↔ x ∈ l.take m) := by
    intro m
    induction m with
    | zero => intro _; exact ⟨List.Pairwise.nil, fun x => by simp [Lib.compactUpTo]⟩
    | succ m ih =>
      intro hm
      obtain ⟨h1, h2⟩ := ih (by omega)
      have hlt : m < l.length := by omega
      have hg : l.toArray[m]! = l[m] := by simp [hlt]
      have ht : l.take (m + 1) = l.take m ++ [l[m]] := take_snoc (List.getElem?_eq_getElem hlt)
      have hmax : ∀ y ∈ l.take m, y ≤ l[m] := fun y hy => by
        have hs' : (l.take (m + 1)).Pairwise (· ≤ ·) := hs.sublist (List.take_sublist _ _)
        rw [ht, List.pairwise_append] at hs'
        exact hs'.2.2 y hy _ (by simp)
      rw [Lib.compactUpTo_succ, hg, ht]
      by_cases hk : Lib.keeps l.toArray m = true
      · rw [if_pos hk]
        refine ⟨h1.snoc fun y hy => ?_, fun x => by rw [List.mem_append, h2, List.mem_append]⟩
        have hle := hmax y ((h2 y).1 hy)
        refine lt_of_le_ne hle fun h => ?_
        have hy' := (h2 y).1 hy
        have hm0 : 0 < m := by
          rcases Nat.eq_zero_or_pos m with h0 | h0
          · subst h0; simp at hy'
          · exact h0
        have hpm : l[m - 1] = l[m] := by
          have ht2 : l.take m = l.take (m - 1) ++ [l[m - 1]] := by
            have := take_snoc (List.getElem?_eq_getElem (l := l) (i := m - 1) (by omega))
            rwa [show m - 1 + 1 = m by omega] at this
          have hle2 : l[m - 1] ≤ l[m] := hmax _ (List.mem_take_iff_getElem.2 ⟨m - 1, by omega, rfl⟩)
          rw [ht2] at hy'
          rcases List.mem_append.1 hy' with hy' | hy'
          · have hs' : (l.take m).Pairwise (· ≤ ·) := hs.sublist (List.take_sublist _ _)
            rw [ht2, List.pairwise_append] at hs'
            have := hs'.2.2 y hy' _ (List.mem_singleton.2 rfl)
            exact List.le_antisymm hle2 (h ▸ this)
          · simp at hy'; rw [← hy', h]
        have hg2 : l.toArray[m - 1]! = l[m - 1] := by simp [show m - 1 < l.length by omega]
        unfold Lib.keeps at hk
        rw [hg, hg2, hpm] at hk
        simp at hk; omega
      · rw [if_neg hk, List.append_nil]
        refine ⟨h1, fun x => ?_⟩
        rw [h2, List.mem_append]
        refine ⟨.inl, fun h => ?_⟩
        rcases h with h | h
        · exact h
        · simp at h; subst h
          have hm0 : 0 < m := by
            rcases Nat.eq_zero_or_pos m with h0 | h0
            · subst h0; exact absurd (by simp [Lib.keeps]) hk
            · exact h0
          have hg2 : l.toArray[m - 1]! = l[m - 1] := by simp [show m - 1 < l.length by omega]
          have hpm : l[m - 1] = l[m] := by
            unfold Lib.keeps at hk
            rw [hg, hg2] at hk
            simp at hk; exact hk.2.symm
          have ht2 : l.take m = l.take (m - 1) ++ [l[m - 1]] := by
            have := take_snoc (List.getElem?_eq_getElem (l := l) (i := m - 1) (by omega))
            rwa [show m - 1 + 1 = m by omega] at this
          rw [ht2, hpm]; simp
  have := key l.length (Nat.le_refl _)
  rw [List.take_length] at this
  exact this
theorem made_eq (l : List Bs) : Lib.compact (srt l) = build [] l := by
  obtain ⟨h1, h2⟩ := compact_spec (srt_le l)
  obtain ⟨h3, h4⟩ := build_spec (l := l) (d := []) List.Pairwise.nil
  exact h1.ext h3 fun x => by rw [h2, mem_srt, h4]; simp
theorem build_self {d : List Bs} (h : Inc d) : build [] d = d := by
  obtain ⟨h3, h4⟩ := build_spec (l := d) (d := []) List.Pairwise.nil
  exact h3.ext h fun x => by rw [h4]; simp
/-- The first number that is not nought. -/
def first (f : Nat → Int) (n : Nat) : Int := match (List.range n).find? (fun i => decide (f i ≠ 0)) with
  | some i => f i
  | none => 0
theorem first_hit {f : Nat → Int} {n i : Nat} {r : Int} (h1 : ∀ j, j < i → f j = 0) (h2 : f i = r) (h3 : r ≠ 0) (h4 : i < n) : first f n = r := by
  unfold first
  have : (List.range n).find? (fun i => decide (f i ≠ 0)) = some i := by
    rw [List.find?_range_eq_some]
    exact ⟨by simp [h2, h3], by simpa using h4, fun j hj => by simp [h1 j hj]⟩
  rw [this]; exact h2
theorem first_none {f : Nat → Int} {n : Nat} (h : ∀ j, j < n → f j = 0) : first f n = 0 := by
  unfold first
  have : (List.range n).find? (fun i => decide (f i ≠ 0)) = none := by
    rw [List.find?_range_eq_none]; intro j hj; simp [h j hj]
  rw [this]
theorem first_zero {f : Nat → Int} {n : Nat} (h : first f n = 0) : ∀ j, j < n → f j = 0 := by
  unfold first at h
  split at h
  · rename_i i hi
    rw [List.find?_range_eq_some] at hi
    have := hi.1; simp at this; exact absurd h this
  · rename_i hi
    rw [List.find?_range_eq_none] at hi
    intro j hj; have := hi j hj; simpa using this
end Go.DicM
