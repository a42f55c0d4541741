/- Prefixes in a dictionary, without a program. Conditions: none. -/
import Derived.Test.YtbpihhaiechnbaaM0
namespace Go.DicM
open Go
set_option linter.unusedVariables false
/-- A string begins with another one. -/
def hasP (x p : Bs) : Bool := decide (p.length ≤ x.length ∧ x.take p.length = p)
theorem hasP_iff {x p : Bs} : hasP x p = true ↔ p <+: x := by
  unfold hasP
  rw [decide_eq_true_eq, List.prefix_iff_eq_take]
  constructor
  · intro h; exact h.2.symm
  · intro h; refine ⟨?_, h.symm⟩
    have := congrArg List.length h
    rw [List.length_take] at this; omega
theorem pfx_le : ∀ {p x : Bs}, p <+: x → ¬ x < p
  | [], x, _ => by simp
  | a :: p, [], h => by simp at h
  | a :: p, b :: x, h => by
    obtain ⟨rfl, h'⟩ := List.cons_prefix_cons.1 h
    rw [List.cons_lt_cons_iff]
    rintro (h1 | ⟨_, h1⟩)
    · exact absurd h1 (by exact UInt8.lt_irrefl _)
    · exact pfx_le h' h1
theorem pfx_mid : ∀ {p y x : Bs}, ¬ y < p → ¬ x < y → p <+: x → p <+: y
  | [], y, x, _, _, _ => List.nil_prefix
  | a :: p, y, [], _, _, h => by simp at h
  | a :: p, [], b :: x, h1, _, _ => absurd (List.nil_lt_cons a p) h1
  | a :: p, c :: y, b :: x, h1, h2, h => by
    obtain ⟨rfl, h'⟩ := List.cons_prefix_cons.1 h
    rw [List.cons_lt_cons_iff] at h1 h2
    have h3 : ¬ c < a := fun q => h1 (.inl q)
    have h4 : ¬ a < c := fun q => h2 (.inl q)
    have h5 : a = c := by
      apply UInt8.le_antisymm
      · exact UInt8.not_lt.1 h3
      · exact UInt8.not_lt.1 h4
    subst h5
    exact List.cons_prefix_cons.2 ⟨rfl, pfx_mid (fun q => h1 (.inr ⟨rfl, q⟩)) (fun q => h2 (.inr ⟨rfl, q⟩)) h'⟩
/-- How many strings begin with one. -/
def prefN (d : List Bs) (p : Bs) : Nat := (d.filter fun x => hasP x p).length
theorem prefN_snoc (d : List Bs) (p x : Bs) : prefN (d ++ [x]) p = prefN d p + if hasP x p = true then 1 else 0 := by
  unfold prefN; rw [List.filter_append, List.length_append]; congr 1
  by_cases h : hasP x p = true
  · rw [List.filter_cons, if_pos h, if_pos h]; rfl
  · rw [List.filter_cons, if_neg h, if_neg h]; rfl
theorem prefN_le (d : List Bs) (p : Bs) : prefN d p ≤ d.length := List.length_filter_le _ _
theorem prefN_eq {d : List Bs} {p : Bs} {t : Nat} (hd : Inc d) (h1 : lower d p ≤ t) (h2 : t ≤ d.length) (h3 : ∀ j x, lower d p ≤ j → j < t → d[j]? = some x → hasP x p = true) (h4 : ∀ x, d[t]? = some x → ¬ hasP x p = true) : lower d p + prefN d p = t := by
  have hsplit : d = d.take (lower d p) ++ ((d.take t).drop (lower d p) ++ d.drop t) := by
    have e1 : d.take t = (d.take t).take (lower d p) ++ (d.take t).drop (lower d p) := (List.take_append_drop _ _).symm
    rw [List.take_take, Nat.min_eq_left h1] at e1
    rw [← List.append_assoc, ← e1, List.take_append_drop]
  have f1 : (d.take (lower d p)).filter (fun x => hasP x p) = [] := by
    rw [List.filter_eq_nil_iff]
    intro x hx
    obtain ⟨i, hi⟩ := List.mem_iff_getElem?.1 hx
    rw [List.getElem?_take] at hi
    split at hi
    · rename_i hlt
      have := lower_lt hlt hi
      rw [hasP_iff]; exact fun h => pfx_le h this
    · simp at hi
  have f2 : ((d.take t).drop (lower d p)).filter (fun x => hasP x p) = (d.take t).drop (lower d p) := by
    rw [List.filter_eq_self]
    intro x hx
    obtain ⟨i, hi⟩ := List.mem_iff_getElem?.1 hx
    rw [List.getElem?_drop, List.getElem?_take] at hi
    split at hi
    · rename_i hlt; exact h3 _ x (Nat.le_add_right _ _) hlt hi
    · simp at hi
  have f3 : (d.drop t).filter (fun x => hasP x p) = [] := by
    rw [List.filter_eq_nil_iff]
    intro x hx h
    obtain ⟨i, hi⟩ := List.mem_iff_getElem?.1 hx
    rw [List.getElem?_drop] at hi
    have hlt := (List.getElem?_eq_some_iff.1 hi).1
    have ht : d[t]? = some d[t] := List.getElem?_eq_getElem (by omega)
    refine h4 _ ht ?_
    have hge := lower_ge' hd h1 ht
    rw [hasP_iff] at h ⊢
    refine pfx_mid hge ?_ h
    rcases Nat.eq_zero_or_pos i with h0 | h0
    · subst h0; rw [Nat.add_zero, ht] at hi; simp at hi; rw [hi]; exact lt_irrefl _
    · exact lt_asymm (hd.get ht hi (by omega))
  have hlen : prefN d p = t - lower d p := by
    unfold prefN
    have e2 : d.filter (fun x => hasP x p) = (d.take (lower d p) ++ ((d.take t).drop (lower d p) ++ d.drop t)).filter (fun x => hasP x p) := by rw [← hsplit]
    rw [e2, List.filter_append, List.filter_append, f1, f2, f3, List.nil_append, List.append_nil, List.length_drop, List.length_take]
    omega
  omega
end Go.DicM
