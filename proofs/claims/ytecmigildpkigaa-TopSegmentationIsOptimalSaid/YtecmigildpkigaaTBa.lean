/- Costs of parts of points, without a program. The best segmentations, without a program. Costs of parts, kept in two halves; the pure functions of the segmentations. slices.Values, AppendSeq, Collect and Sorted at []int, turned from the kit's worked proofs, and told by owned slices. Contracts of Go's functions on lists of numbers: Clone, Sort, Sorted, IndexFunc, ContainsFunc, Equal. Contracts on fractions and quantiles (layers 2 and 43). Contracts on quantiles (layer 43). Contracts of series: like, Coarsen, Moving, Quantile (layer 43). The law's helper known, and the law SeriesQuantiles (layer 43). Contracts of Go's functions on lists of numbers: comparing, searching, sorting, inserting. Segmentations: checks, medians, costs, totals. Segmentations: all costs of parts that end at an index. Segmentations: totals; going on, comparing; slices.DeleteFunc. slices.DeleteFunc; what is pruned. The best segmentations of all beginnings. Conditions: none. -/
import Derived.Test.YtecmigildpkigaaSlZ
import Derived.WalkKit
import Derived.Test.YtecmigildpkigaaProg
import Derived.Test.YtecmigildpkigaaSl7
import Derived.Test.YtecmigildpkigaaSlF
import Derived.RangeFuncBox
import Derived.RangeFuncLeaves
import Derived.Shelf.Abstract
import Derived.Shelf.AbstractIn
import Derived.OwnWalkIn
import Derived.TacticsInMore
import Derived.LoopNIn
import Derived.LoopIn
import Derived.Maps.AppendAt
import Derived.Test.YtecmigildpkigaaShelf
import Derived.Test.YtecmigildpkigaaSlC
import Derived.Test.YtecmigildpkigaaSl3
import Derived.Test.YtecmigildpkigaaSlQ
import Derived.Test.YtecmigildpkigaaSlH
import Derived.Test.YtecmigildpkigaaSlI
import Derived.Test.YtecmigildpkigaaSlG
import Derived.Test.YtecmigildpkigaaSlD
namespace Go.SegP
set_option linter.unusedVariables false
set_option linter.unusedSimpArgs false
def srt (l : List Int) : List Int := l.mergeSort fun x y => decide (x ≤ y)
theorem length_srt (l : List Int) : (srt l).length = l.length := List.length_mergeSort l
theorem srt_perm (l : List Int) : (srt l).Perm l := List.mergeSort_perm l _
theorem srt_le (l : List Int) : (srt l).Pairwise (· ≤ ·) := by
  have := List.pairwise_mergeSort (le := fun x y : Int => decide (x ≤ y)) (fun a b c h1 h2 => by simp at *; omega) (fun a b => by simp; omega) l
  exact this.imp fun h => by simpa using h
theorem sorted_unique : ∀ {a b : List Int}, a.Pairwise (· ≤ ·) → b.Pairwise (· ≤ ·) → a.Perm b → a = b
  | [], b, _, _, h => by simpa using h.symm.eq_nil
  | x :: a, [], _, _, h => by simpa using h.eq_nil
  | x :: a, y :: b, h1, h2, h => by
    obtain ⟨h3, h4⟩ := List.pairwise_cons.1 h1
    obtain ⟨h5, h6⟩ := List.pairwise_cons.1 h2
    have hxy : x = y := by
      have e1 : x ∈ y :: b := h.mem_iff.1 (by simp)
      have e2 : y ∈ x :: a := h.mem_iff.2 (by simp)
      rcases List.mem_cons.1 e1 with e1 | e1
      · exact e1
      · rcases List.mem_cons.1 e2 with e2 | e2
        · exact e2.symm
        · have := h3 y e2; have := h5 x e1; omega
    subst hxy
    rw [sorted_unique h4 h6 (List.Perm.cons_inv h)]
theorem srt_eq {l m : List Int} (h : m.Pairwise (· ≤ ·)) (hp : m.Perm l) : srt l = m := sorted_unique (srt_le l) h ((srt_perm l).trans hp.symm)
def medZ (l : List Int) : Int := (srt l).getD ((l.length - 1) / 2) 0
def devZ (l : List Int) (m : Int) : Int := (l.map fun x => max (x - m) (m - x)).sum
def costZ (l : List Int) : Int := devZ l (medZ l)
theorem sum_perm {a b : List Int} (h : a.Perm b) : a.sum = b.sum := by
  induction h with
  | nil => rfl
  | cons x _ ih => simp [ih]
  | swap x y l => simp; omega
  | trans _ _ h1 h2 => exact h1.trans h2
theorem dev_perm {a b : List Int} (h : a.Perm b) (m : Int) : devZ a m = devZ b m := sum_perm (h.map _)
theorem dev_app (a b : List Int) (m : Int) : devZ (a ++ b) m = devZ a m + devZ b m := by unfold devZ; simp
theorem dev_low : ∀ (l : List Int) (m : Int), m * l.length - l.sum ≤ devZ l m
  | [], m => by simp [devZ]
  | x :: l, m => by
    have ih := dev_low l m
    have e : devZ (x :: l) m = max (x - m) (m - x) + devZ l m := by simp [devZ]
    rw [e, List.length_cons, List.sum_cons]
    have : m * ((l.length + 1 : Nat) : Int) = m * l.length + m := by rw [Int.natCast_add, Int.mul_add]; simp
    omega
theorem dev_high : ∀ (l : List Int) (m : Int), l.sum - m * l.length ≤ devZ l m
  | [], m => by simp [devZ]
  | x :: l, m => by
    have ih := dev_high l m
    have e : devZ (x :: l) m = max (x - m) (m - x) + devZ l m := by simp [devZ]
    rw [e, List.length_cons, List.sum_cons]
    have : m * ((l.length + 1 : Nat) : Int) = m * l.length + m := by rw [Int.natCast_add, Int.mul_add]; simp
    omega
theorem dev_low_eq : ∀ (l : List Int) (m : Int), (∀ x ∈ l, x ≤ m) → devZ l m = m * l.length - l.sum
  | [], m, _ => by simp [devZ]
  | x :: l, m, h => by
    have ih := dev_low_eq l m (fun y hy => h y (by simp [hy]))
    have hx := h x (by simp)
    have e : devZ (x :: l) m = max (x - m) (m - x) + devZ l m := by simp [devZ]
    rw [e, List.length_cons, List.sum_cons]
    have : m * ((l.length + 1 : Nat) : Int) = m * l.length + m := by rw [Int.natCast_add, Int.mul_add]; simp
    omega
theorem dev_high_eq : ∀ (l : List Int) (m : Int), (∀ x ∈ l, m ≤ x) → devZ l m = l.sum - m * l.length
  | [], m, _ => by simp [devZ]
  | x :: l, m, h => by
    have ih := dev_high_eq l m (fun y hy => h y (by simp [hy]))
    have hx := h x (by simp)
    have e : devZ (x :: l) m = max (x - m) (m - x) + devZ l m := by simp [devZ]
    rw [e, List.length_cons, List.sum_cons]
    have : m * ((l.length + 1 : Nat) : Int) = m * l.length + m := by rw [Int.natCast_add, Int.mul_add]; simp
    omega
theorem dev_nn (l : List Int) (m : Int) : 0 ≤ devZ l m := by
  induction l with
  | nil => simp [devZ]
  | cons x l ih =>
    have e : devZ (x :: l) m = max (x - m) (m - x) + devZ l m := by simp [devZ]
    rw [e]; omega
theorem cost_nn (l : List Int) : 0 ≤ costZ l := dev_nn l _
structure Halves (l low high : List Int) : Prop where
  sorted : (low ++ high).Pairwise (· ≤ ·)
  perm : (low ++ high).Perm l
  l1 : high.length ≤ low.length
  l2 : low.length ≤ high.length + 1
theorem halves_med {l low high : List Int} {m : Int} (h : Halves l low high) (hm : low[low.length - 1]? = some m) : medZ l = m := by
  have h0 : low.length - 1 < low.length := (List.getElem?_eq_some_iff.1 hm).1
  have h1 := h.l1; have h2 := h.l2
  have hl : l.length = low.length + high.length := by rw [← h.perm.length_eq, List.length_append]
  unfold medZ
  rw [srt_eq h.sorted h.perm, show (l.length - 1) / 2 = low.length - 1 by omega, List.getD_eq_getElem?_getD, List.getElem?_append_left h0, hm]
  rfl
theorem halves_le {l low high : List Int} {m : Int} (h : Halves l low high) (hm : low[low.length - 1]? = some m) : (∀ x ∈ low, x ≤ m) ∧ (∀ x ∈ high, m ≤ x) := by
  obtain ⟨s1, s2, s3⟩ := List.pairwise_append.1 h.sorted
  refine ⟨fun x hx => ?_, fun x hx => s3 m (List.mem_of_getElem? hm) x hx⟩
  obtain ⟨i, hi⟩ := List.getElem?_of_mem hx
  obtain ⟨hil, hie⟩ := List.getElem?_eq_some_iff.1 hi
  obtain ⟨hml, hme⟩ := List.getElem?_eq_some_iff.1 hm
  by_cases e : i = low.length - 1
  · subst e; rw [hi] at hm; simp at hm; omega
  · have := List.pairwise_iff_getElem.1 s1 i (low.length - 1) hil hml (by omega)
    omega
theorem halves_cost {l low high : List Int} {m : Int} (h : Halves l low high) (hm : low[low.length - 1]? = some m) : costZ l = m * low.length - low.sum + high.sum - m * high.length := by
  obtain ⟨h1, h2⟩ := halves_le h hm
  unfold costZ
  rw [halves_med h hm, ← dev_perm h.perm, dev_app, dev_low_eq _ _ h1, dev_high_eq _ _ h2]
  omega
theorem halves_ex (l : List Int) : ∃ low high, Halves l low high := by
  refine ⟨(srt l).take ((l.length + 1) / 2), (srt l).drop ((l.length + 1) / 2), ⟨by rw [List.take_append_drop]; exact srt_le l, by rw [List.take_append_drop]; exact srt_perm l, ?_, ?_⟩⟩
  · rw [List.length_drop, List.length_take, length_srt]; omega
  · rw [List.length_drop, List.length_take, length_srt]; omega
theorem sum_dropLast {l : List Int} {m : Int} (hm : l[l.length - 1]? = some m) : l.dropLast.sum = l.sum - m ∧ l = l.dropLast ++ [m] := by
  have hne : l ≠ [] := fun e => by subst e; simp at hm
  have h1 : l.getLast hne = m := by
    rw [List.getLast_eq_getElem]; exact (List.getElem?_eq_some_iff.1 hm).2
  have h2 := List.dropLast_concat_getLast hne
  rw [h1] at h2
  refine ⟨?_, h2.symm⟩
  have h3 := congrArg List.sum h2
  simp at h3
  omega
theorem cost_le (l : List Int) (k : Int) : costZ l ≤ devZ l k := by
  obtain ⟨low, high, h⟩ := halves_ex l
  have hl1 := h.l1
  have hl2 := h.l2
  by_cases hn : low.length = 0
  · have e1 : low = [] := List.eq_nil_of_length_eq_zero hn
    have e2 : high = [] := List.eq_nil_of_length_eq_zero (by omega)
    subst e1; subst e2
    have e3 : l = [] := by simpa using h.perm.symm.eq_nil
    subst e3
    simp [costZ, devZ]
  · obtain ⟨m, hm⟩ : ∃ m, low[low.length - 1]? = some m := ⟨low[low.length - 1], List.getElem?_eq_getElem (by omega)⟩
    rw [halves_cost h hm, ← dev_perm h.perm, dev_app]
    have a1 := dev_low low k
    have a2 := dev_high high k
    obtain ⟨q, hq⟩ : ∃ q : Int, q = high.length := ⟨_, rfl⟩
    by_cases he : low.length = high.length
    · rw [he] at a1 ⊢
      omega
    · have he2 : (low.length : Int) = q + 1 := by omega
      rw [he2] at a1 ⊢
      rw [← hq] at a2 ⊢
      have e1 : k * (q + 1) = k * q + k := by rw [Int.mul_add]; simp
      have e2 : m * (q + 1) = m * q + m := by rw [Int.mul_add]; simp
      by_cases hk : m ≤ k
      · omega
      · obtain ⟨s1, s2⟩ := sum_dropLast hm
        have b1 := dev_low low.dropLast k
        have hdl : (low.dropLast.length : Int) = q := by rw [List.length_dropLast]; omega
        rw [hdl, s1] at b1
        have b2 : devZ low k = devZ low.dropLast k + devZ [m] k := by rw [← dev_app, ← s2]
        have b3 : devZ [m] k = max (m - k) (k - m) := by simp [devZ]
        omega
theorem cost_app (a b : List Int) : costZ a + costZ b ≤ costZ (a ++ b) := by
  have h1 := cost_le a (medZ (a ++ b))
  have h2 := cost_le b (medZ (a ++ b))
  have h3 : costZ (a ++ b) = devZ a (medZ (a ++ b)) + devZ b (medZ (a ++ b)) := dev_app _ _ _
  omega
def segC (pts : List Int) (s t : Nat) : Int := costZ ((pts.take t).drop s)
theorem segC_nn (pts : List Int) (s t : Nat) : 0 ≤ segC pts s t := cost_nn _
theorem segC_add (pts : List Int) {s t u : Nat} (h1 : s ≤ t) (h2 : t ≤ u) : segC pts s t + segC pts t u ≤ segC pts s u := by
  have e : (pts.take u).drop s = (pts.take t).drop s ++ (pts.take u).drop t := by
    have e1 : pts.take t = (pts.take u).take t := by rw [List.take_take, Nat.min_eq_left h2]
    rw [e1]
    conv => lhs; rw [← List.take_append_drop t (pts.take u)]
    rw [List.drop_append]
    by_cases hl : s ≤ ((pts.take u).take t).length
    · rw [show s - ((pts.take u).take t).length = 0 by omega, List.drop_zero]
    · have hlt : (pts.take u).length < t := by rw [List.length_take] at hl; omega
      rw [(List.drop_eq_nil_of_le (show (pts.take u).length ≤ t by omega) : (pts.take u).drop t = [])]; simp
  unfold segC
  rw [e]
  exact cost_app _ _
theorem dev_bd {B : Int} : ∀ (l : List Int) (m : Int), (∀ x ∈ l, -B ≤ x ∧ x ≤ B) → -B ≤ m ∧ m ≤ B → devZ l m ≤ 2 * B * l.length
  | [], m, _, _ => by simp [devZ]
  | x :: l, m, h, hm => by
    have ih := dev_bd l m (fun y hy => h y (by simp [hy])) hm
    have hx := h x (by simp)
    have e : devZ (x :: l) m = max (x - m) (m - x) + devZ l m := by simp [devZ]
    rw [e, List.length_cons]
    have : 2 * B * ((l.length + 1 : Nat) : Int) = 2 * B * l.length + 2 * B := by rw [Int.natCast_add, Int.mul_add]; simp
    omega
theorem cost_bd {B : Int} (hB : 0 ≤ B) {l : List Int} (h : ∀ x ∈ l, -B ≤ x ∧ x ≤ B) : costZ l ≤ 2 * B * l.length := by
  have h1 := cost_le l 0
  have h2 := dev_bd l 0 h (by omega)
  omega
theorem segC_bd {B : Int} (hB : 0 ≤ B) {pts : List Int} (h : ∀ x ∈ pts, -B ≤ x ∧ x ≤ B) (s t : Nat) : segC pts s t ≤ 2 * B * pts.length := by
  have h1 := cost_bd hB (l := (pts.take t).drop s) (fun x hx => h x (List.mem_of_mem_take (List.mem_of_mem_drop hx)))
  have h2 : (((pts.take t).drop s).length : Int) ≤ pts.length := by rw [List.length_drop, List.length_take]; omega
  have h3 : 2 * B * (((pts.take t).drop s).length : Int) ≤ 2 * B * pts.length := Int.mul_le_mul_of_nonneg_left h2 (by omega)
  unfold segC; omega
end Go.SegP
namespace Go.SegP
set_option linter.unusedVariables false
set_option linter.unusedSimpArgs false
abbrev BV := Int × List Int
def cmpL : List Int → List Int → Int
  | [], [] => 0
  | [], _ :: _ => -1
  | _ :: _, [] => 1
  | x :: a, y :: b => if x < y then -1 else if x > y then 1 else cmpL a b
def btr (b o : BV) : Bool := if b.1 ≠ o.1 then decide (b.1 < o.1) else if b.2.length ≠ o.2.length then decide (b.2.length < o.2.length) else decide (cmpL b.2 o.2 < 0)
theorem cmp_self : ∀ a : List Int, cmpL a a = 0
  | [] => rfl
  | x :: a => by unfold cmpL; rw [if_neg (by omega), if_neg (by omega)]; exact cmp_self a
theorem cmp_eq : ∀ {a b : List Int}, ¬ cmpL a b < 0 → ¬ cmpL b a < 0 → a = b
  | [], [], _, _ => rfl
  | [], y :: b, h, _ => absurd (show cmpL [] (y :: b) < 0 by unfold cmpL; decide) h
  | x :: a, [], _, h => absurd (show cmpL [] (x :: a) < 0 by unfold cmpL; decide) h
  | x :: a, y :: b, h1, h2 => by
    unfold cmpL at h1 h2
    by_cases e1 : x < y
    · rw [if_pos e1] at h1; exact absurd (by decide) h1
    · by_cases e2 : y < x
      · rw [if_pos e2] at h2; exact absurd (by decide) h2
      · rw [if_neg e1, if_neg e2] at h1
        rw [if_neg e2, if_neg e1] at h2
        rw [cmp_eq h1 h2, show x = y by omega]
theorem cmp_trans : ∀ {a b c : List Int}, cmpL a b < 0 → cmpL b c < 0 → cmpL a c < 0
  | [], [], _, h, _ => absurd h (by unfold cmpL; decide)
  | x :: a, [], _, h, _ => absurd h (by unfold cmpL; decide)
  | _, y :: b, [], _, h => absurd h (by unfold cmpL; decide)
  | [], y :: b, z :: c, _, _ => by unfold cmpL; decide
  | x :: a, y :: b, z :: c, h1, h2 => by
    unfold cmpL at h1 h2 ⊢
    by_cases e1 : x < y
    · by_cases e2 : y < z
      · rw [if_pos (by omega)]; decide
      · by_cases e3 : y > z
        · rw [if_neg e2, if_pos e3] at h2; exact absurd h2 (by decide)
        · rw [if_pos (by omega)]; decide
    · by_cases e1' : x > y
      · rw [if_neg e1, if_pos e1'] at h1; exact absurd h1 (by decide)
      · rw [if_neg e1, if_neg e1'] at h1
        by_cases e2 : y < z
        · rw [if_pos (by omega)]; decide
        · by_cases e3 : y > z
          · rw [if_neg e2, if_pos e3] at h2; exact absurd h2 (by decide)
          · rw [if_neg e2, if_neg e3] at h2
            rw [if_neg (by omega), if_neg (by omega)]
            exact cmp_trans h1 h2
theorem btr_self (b : BV) : btr b b = false := by unfold btr; rw [if_neg (by simp), if_neg (by simp), cmp_self]; decide
theorem btr_lt {b o : BV} (h : b.1 < o.1) : btr b o = true := by unfold btr; rw [if_pos (by omega)]; exact decide_eq_true h
theorem btr_gt {b o : BV} (h : o.1 < b.1) : btr b o = false := by unfold btr; rw [if_pos (by omega)]; exact decide_eq_false (by omega)
theorem btr_le {b o : BV} (h : btr b o = true) : b.1 ≤ o.1 := by
  by_cases e : o.1 < b.1
  · rw [btr_gt e] at h; exact absurd h (by decide)
  · omega
theorem btr_nle {b o : BV} (h : btr b o = false) : o.1 ≤ b.1 := by
  by_cases e : b.1 < o.1
  · rw [btr_lt e] at h; exact absurd h (by decide)
  · omega
theorem btr_eq {b o : BV} (h1 : btr b o = false) (h2 : btr o b = false) : b = o := by
  have e := btr_nle h1
  have e' := btr_nle h2
  have e1 : b.1 = o.1 := by omega
  unfold btr at h1 h2
  rw [if_neg (by omega)] at h1 h2
  by_cases l : b.2.length = o.2.length
  · rw [if_neg (by omega)] at h1 h2
    have := cmp_eq (of_decide_eq_false h1) (of_decide_eq_false h2)
    exact Prod.ext e1 this
  · rw [if_pos (by omega)] at h1 h2
    have := of_decide_eq_false h1
    have := of_decide_eq_false h2
    omega
theorem btr_trans {a b c : BV} (h1 : btr a b = true) (h2 : btr b c = true) : btr a c = true := by
  have e1 := btr_le h1
  have e2 := btr_le h2
  by_cases e : a.1 < c.1
  · exact btr_lt e
  · unfold btr at h1 h2 ⊢
    rw [if_neg (by omega)] at h1 h2 ⊢
    by_cases l1 : a.2.length = b.2.length
    · rw [if_neg (by omega)] at h1
      by_cases l2 : b.2.length = c.2.length
      · rw [if_neg (by omega)] at h2 ⊢
        exact decide_eq_true (cmp_trans (of_decide_eq_true h1) (of_decide_eq_true h2))
      · rw [if_pos (by omega)] at h2 ⊢
        have := of_decide_eq_true h2
        exact decide_eq_true (by omega)
    · rw [if_pos (by omega)] at h1
      have := of_decide_eq_true h1
      by_cases l2 : b.2.length = c.2.length
      · rw [if_pos (by omega)]; exact decide_eq_true (by omega)
      · rw [if_pos (by omega)] at h2
        have := of_decide_eq_true h2
        rw [if_pos (by omega)]; exact decide_eq_true (by omega)
def aftB (b : BV) (s : Nat) (c : Int) : BV := (b.1 + c, if s > 0 then b.2 ++ [(s : Int)] else b.2)
def stpB (all : List BV) (pen : Int) (c : Nat → Int) (f : Option BV) (s : Nat) : Option BV := match f with
  | none => some (aftB (all.getD s (0, [])) s (pen + c s))
  | some f => if (all.getD s (0, [])).1 + pen + c s > f.1 then some f else if btr (aftB (all.getD s (0, [])) s (pen + c s)) f = true then some (aftB (all.getD s (0, [])) s (pen + c s)) else some f
def pikB (all : List BV) (pen : Int) (c : Nat → Int) (cand : List Nat) : Option BV := cand.foldl (stpB all pen c) none
def cnd (all : List BV) (pen : Int) (c : Nat → Int) (s : Nat) : BV := aftB (all.getD s (0, [])) s (pen + c s)
theorem cnd_tot {all : List BV} {pen : Int} {c : Nat → Int} {s : Nat} : (cnd all pen c s).1 = (all.getD s (0, [])).1 + (pen + c s) := rfl
theorem pik_snoc (all : List BV) (pen : Int) (c : Nat → Int) (cand : List Nat) (s : Nat) : pikB all pen c (cand ++ [s]) = stpB all pen c (pikB all pen c cand) s := by unfold pikB; rw [List.foldl_append]; rfl
theorem stp_some {all : List BV} {pen : Int} {c : Nat → Int} {f : BV} {s : Nat} : stpB all pen c (some f) s = some (if btr (cnd all pen c s) f = true then cnd all pen c s else f) := by
  unfold stpB
  dsimp only
  by_cases h : (all.getD s (0, [])).1 + pen + c s > f.1
  · have : btr (cnd all pen c s) f = false := btr_gt (by rw [cnd_tot]; omega)
    rw [if_pos h, if_neg (by rw [this]; decide)]
  · rw [if_neg h]
    by_cases h2 : btr (cnd all pen c s) f = true
    · rw [if_pos h2]; exact if_pos h2
    · rw [if_neg h2]; exact if_neg h2
def IsLeast (all : List BV) (pen : Int) (c : Nat → Int) (cand : List Nat) (f : BV) : Prop := (∃ s ∈ cand, f = cnd all pen c s) ∧ ∀ s ∈ cand, btr (cnd all pen c s) f = false
theorem pik_least (all : List BV) (pen : Int) (c : Nat → Int) : ∀ (l : List Nat) (cand : List Nat) (f : BV), IsLeast all pen c cand f → ∃ g, l.foldl (stpB all pen c) (some f) = some g ∧ IsLeast all pen c (cand ++ l) g
  | [], cand, f, h => ⟨f, rfl, by simpa using h⟩
  | s :: l, cand, f, h => by
    obtain ⟨⟨s0, h0, h1⟩, h2⟩ := h
    rw [List.foldl_cons, stp_some]
    have hn : IsLeast all pen c (cand ++ [s]) (if btr (cnd all pen c s) f = true then cnd all pen c s else f) := by
      by_cases hb : btr (cnd all pen c s) f = true
      · rw [if_pos hb]
        refine ⟨⟨s, by simp, rfl⟩, fun q hq => ?_⟩
        rcases List.mem_append.1 hq with hq | hq
        · cases hx : btr (cnd all pen c q) (cnd all pen c s) with
          | false => rfl
          | true => have := btr_trans hx hb; rw [h2 q hq] at this; exact absurd this (by decide)
        · rw [List.mem_singleton] at hq; subst hq; exact btr_self _
      · rw [if_neg hb]
        refine ⟨⟨s0, by simp [h0], h1⟩, fun q hq => ?_⟩
        rcases List.mem_append.1 hq with hq | hq
        · exact h2 q hq
        · rw [List.mem_singleton] at hq; subst hq; simpa using hb
    obtain ⟨g, e1, e2⟩ := pik_least all pen c l (cand ++ [s]) _ hn
    exact ⟨g, e1, by simpa using e2⟩
theorem pik_ex (all : List BV) (pen : Int) (c : Nat → Int) {cand : List Nat} (h : cand ≠ []) : ∃ g, pikB all pen c cand = some g ∧ IsLeast all pen c cand g := by
  cases cand with
  | nil => exact absurd rfl h
  | cons s l =>
    have h0 : IsLeast all pen c [s] (cnd all pen c s) := ⟨⟨s, by simp, rfl⟩, fun q hq => by rw [List.mem_singleton] at hq; subst hq; exact btr_self _⟩
    exact pik_least all pen c l [s] _ h0
theorem least_unique {all : List BV} {pen : Int} {c : Nat → Int} {cand cand' : List Nat} {f g : BV} (h1 : IsLeast all pen c cand f) (h2 : IsLeast all pen c cand' g) (hs : ∀ s ∈ cand', s ∈ cand) (hf : ∃ s ∈ cand', f = cnd all pen c s) : f = g := by
  obtain ⟨⟨s, a1, a2⟩, a3⟩ := h1
  obtain ⟨⟨t, b1, b2⟩, b3⟩ := h2
  obtain ⟨s', c1, c2⟩ := hf
  have e1 := a3 t (hs t b1)
  rw [← b2] at e1
  have e2 := b3 s' c1
  rw [← c2] at e2
  exact btr_eq e2 e1
def allN (C : Nat → Nat → Int) (pen : Int) (prune : Bool) : Nat → List BV × List Nat
  | 0 => ([(-pen, [])], [0])
  | t + 1 =>
    let p := allN C pen prune t
    let f := (pikB p.1 pen (fun s => C s (t + 1)) p.2).getD (0, [])
    (p.1 ++ [f], (if prune = true then p.2.filter (fun s => !decide ((p.1.getD s (0, [])).1 + C s (t + 1) > f.1)) else p.2) ++ [t + 1])
def fndN (C : Nat → Nat → Int) (pen : Int) (prune : Bool) (t : Nat) : BV := (pikB (allN C pen prune t).1 pen (fun s => C s (t + 1)) (allN C pen prune t).2).getD (0, [])
theorem all_succ (C : Nat → Nat → Int) (pen : Int) (prune : Bool) (t : Nat) : (allN C pen prune (t + 1)).1 = (allN C pen prune t).1 ++ [fndN C pen prune t] := rfl
theorem cand_succ (C : Nat → Nat → Int) (pen : Int) (prune : Bool) (t : Nat) : (allN C pen prune (t + 1)).2 = (if prune = true then (allN C pen prune t).2.filter (fun s => !decide (((allN C pen prune t).1.getD s (0, [])).1 + C s (t + 1) > (fndN C pen prune t).1)) else (allN C pen prune t).2) ++ [t + 1] := rfl
theorem all_len (C : Nat → Nat → Int) (pen : Int) (prune : Bool) : ∀ t, (allN C pen prune t).1.length = t + 1
  | 0 => rfl
  | t + 1 => by rw [all_succ, List.length_append, all_len C pen prune t]; rfl
theorem cand_sub (C : Nat → Nat → Int) (pen : Int) (prune : Bool) : ∀ t, ∀ s ∈ (allN C pen prune t).2, s ≤ t
  | 0, s, h => by simp [allN] at h; omega
  | t + 1, s, h => by
    rw [cand_succ] at h
    rcases List.mem_append.1 h with h | h
    · have : s ∈ (allN C pen prune t).2 := by
        split at h
        · exact (List.mem_filter.1 h).1
        · exact h
      have := cand_sub C pen prune t s this; omega
    · simp at h; omega
theorem cand_last (C : Nat → Nat → Int) (pen : Int) (prune : Bool) (t : Nat) : t ∈ (allN C pen prune t).2 := by
  cases t with
  | zero => simp [allN]
  | succ t => rw [cand_succ]; simp
theorem cand_len (C : Nat → Nat → Int) (pen : Int) (prune : Bool) : ∀ t, (allN C pen prune t).2.length ≤ t + 1
  | 0 => by simp [allN]
  | t + 1 => by
    have ih := cand_len C pen prune t
    rw [cand_succ, List.length_append]
    have : (if prune = true then (allN C pen prune t).2.filter (fun s => !decide (((allN C pen prune t).1.getD s (0, [])).1 + C s (t + 1) > (fndN C pen prune t).1)) else (allN C pen prune t).2).length ≤ (allN C pen prune t).2.length := by
      split
      · exact List.length_filter_le ..
      · omega
    rw [List.length_singleton]; omega
theorem cand_all (C : Nat → Nat → Int) (pen : Int) : ∀ t s, s ≤ t → s ∈ (allN C pen false t).2
  | 0, s, h => by simp [allN]; omega
  | t + 1, s, h => by
    rw [cand_succ]
    rw [if_neg (by decide)]
    by_cases e : s = t + 1
    · simp [e]
    · exact List.mem_append_left _ (cand_all C pen t s (by omega))
theorem fnd_least (C : Nat → Nat → Int) (pen : Int) (prune : Bool) (t : Nat) : IsLeast (allN C pen prune t).1 pen (fun s => C s (t + 1)) (allN C pen prune t).2 (fndN C pen prune t) := by
  obtain ⟨g, h1, h2⟩ := pik_ex (allN C pen prune t).1 pen (fun s => C s (t + 1)) (cand := (allN C pen prune t).2) (List.ne_nil_of_mem (cand_last C pen prune t))
  unfold fndN
  rw [h1]; exact h2
theorem all_get (C : Nat → Nat → Int) (pen : Int) (prune : Bool) {s t : Nat} (h : s ≤ t) : (allN C pen prune t).1.getD s (0, []) = (allN C pen prune s).1.getD s (0, []) := by
  induction t with
  | zero => rw [show s = 0 by omega]
  | succ t ih =>
    by_cases e : s = t + 1
    · rw [e]
    · have hl := all_len C pen prune t
      rw [← ih (by omega), all_succ, List.getD_eq_getElem?_getD, List.getElem?_append_left (by omega), ← List.getD_eq_getElem?_getD]
def bstN (C : Nat → Nat → Int) (pen : Int) (prune : Bool) (t : Nat) : BV := (allN C pen prune t).1.getD t (0, [])
theorem bst_succ (C : Nat → Nat → Int) (pen : Int) (prune : Bool) (t : Nat) : bstN C pen prune (t + 1) = fndN C pen prune t := by
  unfold bstN
  rw [all_succ, List.getD_eq_getElem?_getD, List.getElem?_append_right (by rw [all_len]; omega), all_len]; simp
theorem bst_zero (C : Nat → Nat → Int) (pen : Int) (prune : Bool) : bstN C pen prune 0 = (-pen, []) := rfl
theorem all_bst (C : Nat → Nat → Int) (pen : Int) (prune : Bool) {s t : Nat} (h : s ≤ t) : (allN C pen prune t).1.getD s (0, []) = bstN C pen prune s := all_get C pen prune h
theorem all_getS (C : Nat → Nat → Int) (pen : Int) (prune : Bool) {s t : Nat} (h : s ≤ t) : (allN C pen prune t).1[s]? = some (bstN C pen prune s) := by
  have h1 := all_bst C pen prune h
  have h2 := all_len C pen prune t
  rw [List.getD_eq_getElem?_getD, List.getElem?_eq_getElem (by omega)] at h1
  rw [List.getElem?_eq_getElem (by omega), ← h1]; rfl
theorem bst_le (C : Nat → Nat → Int) (pen : Int) {s t : Nat} (h : s ≤ t) : (bstN C pen false (t + 1)).1 ≤ (bstN C pen false s).1 + pen + C s (t + 1) := by
  have h1 := (fnd_least C pen false t).2 s (cand_all C pen t s h)
  have h2 := btr_nle h1
  rw [bst_succ]
  rw [cnd_tot, all_bst C pen false h] at h2
  omega
theorem bst_ex (C : Nat → Nat → Int) (pen : Int) (prune : Bool) (t : Nat) : ∃ s, s ≤ t ∧ bstN C pen prune (t + 1) = aftB (bstN C pen prune s) s (pen + C s (t + 1)) := by
  obtain ⟨s, h1, h2⟩ := (fnd_least C pen prune t).1
  have h3 := cand_sub C pen prune t s h1
  refine ⟨s, h3, ?_⟩
  rw [bst_succ, h2]; unfold cnd; rw [all_bst C pen prune h3]
theorem prune_same {C : Nat → Nat → Int} {pen : Int} (hp : 0 ≤ pen) (hC : ∀ s t u, s ≤ t → t ≤ u → C s t + C t u ≤ C s u) : ∀ t, (allN C pen true t).1 = (allN C pen false t).1 ∧
    ∀ s, s ≤ t → s ∉ (allN C pen true t).2 → ∃ v, (s < v ∧ v ≤ t) ∧ (bstN C pen false s).1 + C s v > (bstN C pen false v).1
  | 0 => ⟨rfl, fun s h1 h2 => absurd (by simp [allN]; omega) h2⟩
  | t + 1 => by
    obtain ⟨ih1, ih2⟩ := prune_same hp hC t
    have hf : fndN C pen true t = fndN C pen false t := by
      have l1 := fnd_least C pen false t
      have l2 := fnd_least C pen true t
      rw [ih1] at l2
      refine (least_unique l1 l2 (fun s hs => cand_all C pen t s (cand_sub C pen true t s hs)) ?_).symm
      obtain ⟨⟨s, a1, a2⟩, a3⟩ := l1
      have hst := cand_sub C pen false t s a1
      by_cases hm : s ∈ (allN C pen true t).2
      · exact ⟨s, hm, a2⟩
      · obtain ⟨v, ⟨v1, v2⟩, v3⟩ := ih2 s hst hm
        have e1 := btr_nle (a3 v (cand_all C pen t v v2))
        rw [a2, cnd_tot, cnd_tot, all_bst C pen false hst, all_bst C pen false v2] at e1
        have e2 := hC s v (t + 1) (by omega) (by omega)
        omega
    refine ⟨by rw [all_succ, all_succ, ih1, hf], fun s h1 h2 => ?_⟩
    rw [cand_succ, if_pos rfl] at h2
    have h3 : s ≠ t + 1 := fun e => h2 (by simp [e])
    by_cases hm : s ∈ (allN C pen true t).2
    · refine ⟨t + 1, ⟨by omega, Nat.le_refl _⟩, ?_⟩
      have h4 : ¬ s ∈ ((allN C pen true t).2.filter (fun s => !decide (((allN C pen true t).1.getD s (0, [])).1 + C s (t + 1) > (fndN C pen true t).1))) := fun h => h2 (List.mem_append_left _ h)
      rw [List.mem_filter] at h4
      have h5 : ((allN C pen true t).1.getD s (0, [])).1 + C s (t + 1) > (fndN C pen true t).1 := by
        refine Decidable.byContradiction fun h6 => h4 ⟨hm, ?_⟩
        rw [decide_eq_false h6]; rfl
      rw [ih1, hf, all_bst C pen false (by omega), ← bst_succ] at h5
      exact h5
    · obtain ⟨v, ⟨v1, v2⟩, v3⟩ := ih2 s (by omega) hm
      exact ⟨v, ⟨v1, by omega⟩, v3⟩
def sgs (C : Nat → Nat → Int) (n : Nat) : Nat → List Int → Int
  | s, [] => C s n
  | s, c :: cs => C s c.toNat + sgs C n c.toNat cs
def Cuts (n : Nat) : Nat → List Int → Prop
  | s, [] => s < n
  | s, c :: cs => (s : Int) < c ∧ Cuts n c.toNat cs
instance (n : Nat) : ∀ (s : Nat) (l : List Int), Decidable (Cuts n s l)
  | s, [] => by unfold Cuts; infer_instance
  | s, c :: cs => by unfold Cuts; have := instDecidableCuts n c.toNat cs; infer_instance
theorem cuts_lt {n : Nat} : ∀ {s : Nat} {l : List Int}, Cuts n s l → s < n
  | s, [], h => h
  | s, c :: cs, h => by have := cuts_lt h.2; have := h.1; omega
theorem cuts_le {n : Nat} : ∀ {s : Nat} {l : List Int}, Cuts n s l → ∀ c ∈ l, (s : Int) < c ∧ c < n
  | s, [], h, c, hc => by simp at hc
  | s, d :: cs, h, c, hc => by
    have h1 := cuts_lt h.2
    have h2 := h.1
    rcases List.mem_cons.1 hc with e | e
    · subst e; omega
    · have := cuts_le h.2 c e; omega
theorem cuts_snoc {n : Nat} : ∀ {s t : Nat} {l : List Int}, Cuts t s l → t < n → Cuts n s (l ++ [(t : Int)])
  | s, t, [], h, hn => ⟨by have : s < t := h; omega, by show t < n; exact hn⟩
  | s, t, c :: cs, h, hn => ⟨h.1, cuts_snoc h.2 hn⟩
theorem sgs_snoc (C : Nat → Nat → Int) (n : Nat) : ∀ (s t : Nat) (l : List Int), sgs C n s (l ++ [(t : Int)]) = sgs C t s l + C t n
  | s, t, [] => by show C s t + C t n = C s t + C t n; rfl
  | s, t, c :: cs => by
    show C s c.toNat + sgs C n c.toNat (cs ++ [(t : Int)]) = C s c.toNat + sgs C t c.toNat cs + C t n
    rw [sgs_snoc C n c.toNat t cs]; omega
theorem bst_min (C : Nat → Nat → Int) (pen : Int) (n : Nat) : ∀ {s : Nat} {l : List Int}, Cuts n s l → (bstN C pen false n).1 ≤ (bstN C pen false s).1 + pen * ((l.length : Int) + 1) + sgs C n s l
  | s, [], h => by
    have h0 : s < n := h
    obtain ⟨m, rfl⟩ : ∃ m, n = m + 1 := ⟨n - 1, by omega⟩
    have := bst_le C pen (s := s) (t := m) (by omega)
    show _ ≤ _ + pen * ((0 : Nat) + 1 : Int) + C s (m + 1)
    simp; omega
  | s, c :: cs, h => by
    have h1 := bst_min C pen n h.2
    have h2 := h.1
    obtain ⟨m, hm⟩ : ∃ m, c.toNat = m + 1 := ⟨c.toNat - 1, by omega⟩
    have h3 := bst_le C pen (s := s) (t := m) (by omega)
    rw [← hm] at h3
    show _ ≤ _ + pen * (((cs.length + 1 : Nat) : Int) + 1) + (C s c.toNat + sgs C n c.toNat cs)
    have e : pen * (((cs.length + 1 : Nat) : Int) + 1) = pen * ((cs.length : Int) + 1) + pen := by rw [Int.natCast_add, Int.mul_add, Int.mul_add, Int.mul_add]; simp
    omega
theorem bst_best (C : Nat → Nat → Int) (pen : Int) {n : Nat} {l : List Int} (h : Cuts n 0 l) : (bstN C pen false n).1 ≤ pen * l.length + sgs C n 0 l := by
  have h1 := bst_min C pen n h
  rw [bst_zero] at h1
  have e : pen * ((l.length : Int) + 1) = pen * l.length + pen := by rw [Int.mul_add]; simp
  omega
theorem bst_cuts (C : Nat → Nat → Int) (pen : Int) (prune : Bool) : ∀ t : Nat, 0 < t → Cuts t 0 (bstN C pen prune t).2 ∧ (bstN C pen prune t).1 = pen * (bstN C pen prune t).2.length + sgs C t 0 (bstN C pen prune t).2 := by
  intro t
  induction t using Nat.strongRecOn with
  | ind t ih =>
    intro h0
    obtain ⟨m, rfl⟩ : ∃ m, t = m + 1 := ⟨t - 1, by omega⟩
    obtain ⟨s, h1, h2⟩ := bst_ex C pen prune m
    rw [h2]
    by_cases hs : s = 0
    · subst hs
      rw [bst_zero]
      unfold aftB
      refine ⟨Nat.succ_pos m, ?_⟩
      show -pen + (pen + C 0 (m + 1)) = pen * ((0 : Nat) : Int) + C 0 (m + 1)
      simp; omega
    · obtain ⟨a1, a2⟩ := ih s (by omega) (by omega)
      unfold aftB
      rw [if_pos (by omega)]
      refine ⟨cuts_snoc a1 (by omega), ?_⟩
      show (bstN C pen prune s).1 + (pen + C s (m + 1)) = pen * (((bstN C pen prune s).2 ++ [(s : Int)]).length : Int) + sgs C (m + 1) 0 ((bstN C pen prune s).2 ++ [(s : Int)])
      rw [sgs_snoc, List.length_append, List.length_singleton, a2]
      have e : pen * (((bstN C pen prune s).2.length + 1 : Nat) : Int) = pen * ((bstN C pen prune s).2.length : Int) + pen := by rw [Int.natCast_add, Int.mul_add]; simp
      omega
theorem cuts_len {n : Nat} : ∀ {s : Nat} {l : List Int}, Cuts n s l → s + l.length < n
  | s, [], h => h
  | s, c :: cs, h => by have := cuts_len h.2; have := h.1; rw [List.length_cons]; omega
theorem bst_same {C : Nat → Nat → Int} {pen : Int} (hp : 0 ≤ pen) (hC : ∀ s t u, s ≤ t → t ≤ u → C s t + C t u ≤ C s u) (t : Nat) : bstN C pen true t = bstN C pen false t := by
  unfold bstN; rw [(prune_same hp hC t).1]
def IsRow (C : Nat → Nat → Int) : Nat → Nat → Int → Prop
  | 0, t, v => v = C 0 t
  | k + 1, t, v => (∃ s u, (k < s ∧ s < t) ∧ IsRow C k s u ∧ v = u + C s t) ∧ ∀ s u, k < s → s < t → IsRow C k s u → v ≤ u + C s t
theorem row_ge (C : Nat → Nat → Int) (pen : Int) : ∀ {k t : Nat} {v : Int}, k < t → IsRow C k t v → (bstN C pen false t).1 ≤ v + k * pen
  | 0, t, v, hk, h => by
    obtain ⟨m, rfl⟩ : ∃ m, t = m + 1 := ⟨t - 1, by omega⟩
    have h1 := bst_le C pen (s := 0) (t := m) (by omega)
    rw [bst_zero] at h1
    have : v = C 0 (m + 1) := h
    simp; omega
  | k + 1, t, v, hk, h => by
    obtain ⟨s, u, ⟨a1, a2⟩, a3, a4⟩ := h.1
    have h1 := row_ge C pen a1 a3
    obtain ⟨m, rfl⟩ : ∃ m, t = m + 1 := ⟨t - 1, by omega⟩
    have h2 := bst_le C pen (s := s) (t := m) (by omega)
    have e : ((k + 1 : Nat) : Int) * pen = k * pen + pen := by rw [Int.natCast_add, Int.add_mul]; simp
    omega
theorem row_le (C : Nat → Nat → Int) (pen : Int) : ∀ t : Nat, 0 < t → ∀ v, IsRow C (bstN C pen false t).2.length t v → v + (bstN C pen false t).2.length * pen ≤ (bstN C pen false t).1 := by
  intro t
  induction t using Nat.strongRecOn with
  | ind t ih =>
    intro h0 v hv
    obtain ⟨m, rfl⟩ : ∃ m, t = m + 1 := ⟨t - 1, by omega⟩
    obtain ⟨s, h1, h2⟩ := bst_ex C pen false m
    rw [h2] at hv ⊢
    by_cases hs : s = 0
    · subst hs
      rw [bst_zero] at hv ⊢
      unfold aftB at hv ⊢
      have : v = C 0 (m + 1) := hv
      show v + ((0 : Nat) : Int) * pen ≤ -pen + (pen + C 0 (m + 1))
      simp; omega
    · unfold aftB at hv ⊢
      rw [if_pos (by omega)] at hv ⊢
      dsimp only at hv ⊢
      rw [List.length_append, List.length_singleton] at hv ⊢
      obtain ⟨c1, c2⟩ := bst_cuts C pen false s (by omega)
      have c3 := cuts_len c1
      -- the row's value at s
      have hex : ∀ (k q : Nat), k < q → ∃ u, IsRow C k q u := by
        intro k
        induction k with
        | zero => intro q _; exact ⟨_, rfl⟩
        | succ k ihk =>
          intro q hq
          have hmin : ∀ j, k + 1 + j < q → ∃ v, (∃ s u, (k < s ∧ s < k + 2 + j) ∧ IsRow C k s u ∧ v = u + C s q) ∧ ∀ s u, k < s → s < k + 2 + j → IsRow C k s u → v ≤ u + C s q := by
            intro j
            induction j with
            | zero =>
              intro hj
              obtain ⟨u, hu⟩ := ihk (k + 1) (by omega)
              refine ⟨u + C (k + 1) q, ⟨k + 1, u, ⟨by omega, by omega⟩, hu, rfl⟩, fun s u' b1 b2 b3 => ?_⟩
              have : s = k + 1 := by omega
              subst this
              have hun : u = u' := by
                cases k with
                | zero => exact (show u = _ from hu).trans (show u' = _ from b3).symm
                | succ k =>
                  obtain ⟨⟨x1, y1, z1, w1, q1⟩, r1⟩ := hu
                  obtain ⟨⟨x2, y2, z2, w2, q2⟩, r2⟩ := b3
                  have := r1 x2 y2 z2.1 z2.2 w2
                  have := r2 x1 y1 z1.1 z1.2 w1
                  omega
              omega
            | succ j ihj =>
              intro hj
              obtain ⟨v, ⟨s, u, b1, b2, b3⟩, b4⟩ := ihj (by omega)
              obtain ⟨u', hu'⟩ := ihk (k + 2 + j) (by omega)
              have hun : ∀ u'', IsRow C k (k + 2 + j) u'' → u'' = u' := fun u'' hu'' => by
                cases k with
                | zero => exact (show u'' = _ from hu'').trans (show u' = _ from hu').symm
                | succ k =>
                  obtain ⟨⟨x1, y1, z1, w1, q1⟩, r1⟩ := hu'
                  obtain ⟨⟨x2, y2, z2, w2, q2⟩, r2⟩ := hu''
                  have := r1 x2 y2 z2.1 z2.2 w2
                  have := r2 x1 y1 z1.1 z1.2 w1
                  omega
              by_cases hle : v ≤ u' + C (k + 2 + j) q
              · refine ⟨v, ⟨s, u, ⟨b1.1, by omega⟩, b2, b3⟩, fun s2 u2 d1 d2 d3 => ?_⟩
                by_cases e : s2 = k + 2 + j
                · subst e; rw [hun u2 d3]; exact hle
                · exact b4 s2 u2 d1 (by omega) d3
              · refine ⟨u' + C (k + 2 + j) q, ⟨k + 2 + j, u', ⟨by omega, by omega⟩, hu', rfl⟩, fun s2 u2 d1 d2 d3 => ?_⟩
                by_cases e : s2 = k + 2 + j
                · subst e; rw [hun u2 d3]; exact Int.le_refl _
                · have := b4 s2 u2 d1 (by omega) d3; omega
          obtain ⟨v, ⟨s, u, b1, b2, b3⟩, b4⟩ := hmin (q - (k + 2)) (by omega)
          exact ⟨v, ⟨s, u, ⟨b1.1, by omega⟩, b2, b3⟩, fun s2 u2 d1 d2 d3 => b4 s2 u2 d1 (by omega) d3⟩
      obtain ⟨u, hu⟩ := hex (bstN C pen false s).2.length s (by omega)
      have g1 := ih s (by omega) (by omega) u hu
      have g2 := hv.2 s u (by omega) (by omega) hu
      have e : (((bstN C pen false s).2.length + 1 : Nat) : Int) * pen = (bstN C pen false s).2.length * pen + pen := by rw [Int.natCast_add, Int.add_mul]; simp
      omega
end Go.SegP
namespace Go.SegP
set_option linter.unusedVariables false
set_option linter.unusedSimpArgs false
structure IsPos (l : List Int) (x : Int) (k : Nat) : Prop where
  le : k ≤ l.length
  lo : ∀ y ∈ l.take k, y < x
  hi : ∀ y ∈ l.drop k, x ≤ y
def insA (l : List Int) (k : Nat) (x : Int) : List Int := l.take k ++ [x] ++ l.drop k
theorem ins_len {l : List Int} {k : Nat} {x : Int} (h : k ≤ l.length) : (insA l k x).length = l.length + 1 := by unfold insA; simp only [List.length_append, List.length_take, List.length_drop, List.length_singleton]; omega
theorem ins_perm (l : List Int) (k : Nat) (x : Int) : (insA l k x).Perm (x :: l) := by
  unfold insA
  have h : (l.take k ++ [x] ++ l.drop k).Perm ([x] ++ l.take k ++ l.drop k) := List.perm_append_comm.append_right _
  refine h.trans ?_
  rw [List.append_assoc, List.take_append_drop]; exact List.Perm.refl _
theorem ins_sum (l : List Int) (k : Nat) (x : Int) : (insA l k x).sum = l.sum + x := by rw [sum_perm (ins_perm l k x), List.sum_cons]; omega
theorem ins_sorted {l : List Int} {k : Nat} {x : Int} (hs : l.Pairwise (· ≤ ·)) (h : IsPos l x k) : (insA l k x).Pairwise (· ≤ ·) := by
  unfold insA
  have e := hs
  rw [← List.take_append_drop k l] at e
  obtain ⟨h1, h2, h3⟩ := List.pairwise_append.1 e
  refine List.pairwise_append.2 ⟨List.pairwise_append.2 ⟨h1, by simp, fun a ha b hb => ?_⟩, h2, fun a ha b hb => ?_⟩
  · rw [List.mem_singleton] at hb; subst hb; have := h.lo a ha; omega
  · rcases List.mem_append.1 ha with ha | ha
    · exact h3 a ha b hb
    · rw [List.mem_singleton] at ha; subst ha; exact h.hi b hb
theorem ins_mem {l : List Int} {k : Nat} {x y : Int} : y ∈ insA l k x ↔ y = x ∨ y ∈ l := by rw [(ins_perm l k x).mem_iff, List.mem_cons]
structure Cat (l low high : List Int) : Prop where
  sorted : (low ++ high).Pairwise (· ≤ ·)
  perm : (low ++ high).Perm l
theorem Cat.len {l low high : List Int} (h : Cat l low high) : low.length + high.length = l.length := by rw [← h.perm.length_eq, List.length_append]
theorem cat_high {l low high : List Int} {x m : Int} {k : Nat} (h : Halves l low high) (hm : low[low.length - 1]? = some m) (hx : m < x) (hp : IsPos high x k) : Cat (x :: l) low (insA high k x) := by
  obtain ⟨s1, s2, s3⟩ := List.pairwise_append.1 h.sorted
  obtain ⟨q1, q2⟩ := halves_le h hm
  refine ⟨List.pairwise_append.2 ⟨s1, ins_sorted s2 hp, fun a ha b hb => ?_⟩, ?_⟩
  · rcases ins_mem.1 hb with rfl | hb
    · have := q1 a ha; omega
    · exact s3 a ha b hb
  · refine ((ins_perm high k x).append_left low).trans ?_
    refine (List.perm_middle).trans ?_
    exact h.perm.cons x
theorem cat_low {l low high : List Int} {x : Int} {k : Nat} (h : Halves l low high) (hx : ∀ m, low[low.length - 1]? = some m → x ≤ m) (hp : IsPos low x k) : Cat (x :: l) (insA low k x) high := by
  obtain ⟨s1, s2, s3⟩ := List.pairwise_append.1 h.sorted
  refine ⟨List.pairwise_append.2 ⟨ins_sorted s1 hp, s2, fun a ha b hb => ?_⟩, ?_⟩
  · rcases ins_mem.1 ha with rfl | ha
    · by_cases hn : low.length = 0
      · have := h.l1
        have : high = [] := List.eq_nil_of_length_eq_zero (by omega)
        rw [this] at hb; simp at hb
      · have hm : low[low.length - 1]? = some low[low.length - 1] := List.getElem?_eq_getElem (by omega)
        have := hx _ hm
        have := (halves_le h hm).2 b hb
        omega
    · exact s3 a ha b hb
  · exact ((ins_perm low k x).append_right high).trans (by rw [List.cons_append]; exact h.perm.cons x)
theorem cat_same {l low high : List Int} (h : Cat l low high) (h1 : high.length ≤ low.length) (h2 : low.length ≤ high.length + 1) : Halves l low high := ⟨h.sorted, h.perm, h1, h2⟩
theorem cat_up {l low high : List Int} {m : Int} (h : Cat l low high) (hm : low[low.length - 1]? = some m) (h1 : low.length = high.length + 2) : Halves l (low.take (low.length - 1)) (insA high 0 m) := by
  have e : low.take (low.length - 1) ++ insA high 0 m = low ++ high := by
    have h2 := (sum_dropLast hm).2
    rw [List.dropLast_eq_take] at h2
    conv => rhs; rw [h2]
    simp [insA]
  refine ⟨by rw [e]; exact h.sorted, by rw [e]; exact h.perm, ?_, ?_⟩
  · rw [ins_len (by omega), List.length_take]; omega
  · rw [ins_len (by omega), List.length_take]; omega
theorem cat_down {l low high : List Int} {m : Int} (h : Cat l low high) (hm : high[0]? = some m) (h1 : high.length = low.length + 1) : Halves l (low ++ [m]) (high.drop 1) := by
  have e : (low ++ [m]) ++ high.drop 1 = low ++ high := by
    cases high with
    | nil => simp at hm
    | cons y high => simp at hm; subst hm; simp
  refine ⟨by rw [e]; exact h.sorted, by rw [e]; exact h.perm, ?_, ?_⟩
  · rw [List.length_append, List.length_drop, List.length_singleton]; omega
  · rw [List.length_append, List.length_drop, List.length_singleton]; omega
theorem sum_cut {low : List Int} {m : Int} (hm : low[low.length - 1]? = some m) : (low.take (low.length - 1)).sum = low.sum - m := by
  have := (sum_dropLast hm).1
  rwa [List.dropLast_eq_take] at this
theorem sum_tail {high : List Int} {m : Int} (hm : high[0]? = some m) : (high.drop 1).sum = high.sum - m := by
  cases high with
  | nil => simp at hm
  | cons y high => simp at hm; subst hm; simp; omega
structure PtsB (l : List Int) : Prop where
  len : l.length ≤ 100
  val : ∀ x ∈ l, -1000 ≤ x ∧ x ≤ 1000
theorem sum_bd : ∀ {l : List Int}, (∀ x ∈ l, -1000 ≤ x ∧ x ≤ 1000) → -1000 * (l.length : Int) ≤ l.sum ∧ l.sum ≤ 1000 * (l.length : Int)
  | [], _ => by simp
  | x :: l, h => by
    have ih := sum_bd (l := l) (fun y hy => h y (by simp [hy]))
    have := h x (by simp)
    rw [List.sum_cons, List.length_cons]
    omega
theorem mul_bd {m : Int} {k : Nat} (hm : -1000 ≤ m ∧ m ≤ 1000) (hk : k ≤ 200) : -200000 ≤ m * (k : Int) ∧ m * (k : Int) ≤ 200000 := by
  have h1 : m * (k : Int) ≤ 1000 * k := Int.mul_le_mul_of_nonneg_right hm.2 (by omega)
  have h2 : -1000 * (k : Int) ≤ m * k := Int.mul_le_mul_of_nonneg_right hm.1 (by omega)
  omega
def costsL (pts : List Int) (t : Nat) : List Int := (List.range t).map fun s => segC pts s t
theorem costs_len (pts : List Int) (t : Nat) : (costsL pts t).length = t := by unfold costsL; simp
theorem costs_get (pts : List Int) {s t : Nat} (h : s < t) : (costsL pts t)[s]? = some (segC pts s t) := by unfold costsL; rw [List.getElem?_map, List.getElem?_range h]; rfl
theorem costs_step (pts : List Int) {i t : Nat} (h : i < t) : (List.replicate (i + 1) 0 ++ (costsL pts t).drop (i + 1)).set i (segC pts i t) = List.replicate i 0 ++ (costsL pts t).drop i := by
  have h1 : (costsL pts t).drop i = segC pts i t :: (costsL pts t).drop (i + 1) := by
    have hl := costs_len pts t
    rw [List.drop_eq_getElem_cons (by omega)]
    congr 1
    have := costs_get pts h
    exact (List.getElem?_eq_some_iff.1 this).2
  rw [h1, List.replicate_succ', List.append_assoc, List.set_append, if_neg (by simp), List.length_replicate, Nat.sub_self]
  simp
theorem seg_cons (pts : List Int) {i t : Nat} {x : Int} (hx : pts[i]? = some x) (ht : i < t) : (pts.take t).drop i = x :: (pts.take t).drop (i + 1) := by
  have hl : i < (pts.take t).length := by rw [List.length_take]; have := (List.getElem?_eq_some_iff.1 hx).1; omega
  rw [List.drop_eq_getElem_cons hl]
  congr 1
  rw [List.getElem_take]
  exact (List.getElem?_eq_some_iff.1 hx).2
theorem segC_pos (pts : List Int) (h : PtsB pts) (s t : Nat) : 0 ≤ segC pts s t ∧ segC pts s t ≤ 200000 := by
  refine ⟨segC_nn pts s t, ?_⟩
  have h1 := segC_bd (B := 1000) (by decide) h.val s t
  have := h.len
  omega
theorem bst_bd {C : Nat → Nat → Int} {pen : Int} (hp : 0 ≤ pen ∧ pen ≤ 1000) (hC : ∀ s t, 0 ≤ C s t ∧ C s t ≤ 200000) (prune : Bool) : ∀ t : Nat, -1000 ≤ (bstN C pen prune t).1 ∧ (bstN C pen prune t).1 ≤ 201000 * t := by
  intro t
  induction t using Nat.strongRecOn with
  | ind t ih =>
    cases t with
    | zero => rw [bst_zero]; dsimp only; omega
    | succ m =>
      obtain ⟨s, h1, h2⟩ := bst_ex C pen prune m
      have h3 := ih s (by omega)
      have h4 := hC s (m + 1)
      have h5 := btr_nle ((fnd_least C pen prune m).2 m (cand_last C pen prune m))
      rw [← bst_succ, cnd_tot, all_bst C pen prune (Nat.le_refl m)] at h5
      have h6 := ih m (by omega)
      have h7 := hC m (m + 1)
      refine ⟨?_, by omega⟩
      rw [h2]; unfold aftB; dsimp only; omega
end Go.SegP
namespace Go.Proofs.Ytecmigildpkigaa.Ser
open Go Go.RowKit Go.Shelf
set_option linter.unusedVariables false
set_option linter.unusedSimpArgs false
attribute [local go_sem] Oper.semAt_some
def vupto (f : Nat → Int) (k : Nat) : List Int := (List.range k).map f
theorem vupto_succ (f : Nat → Int) (k : Nat) : vupto f (k + 1) = vupto f k ++ [f k] := by simp [vupto, List.range_succ]
theorem vupto_length (f : Nat → Int) (k : Nat) : (vupto f k).length = k := by simp [vupto]
theorem vupto_all (zs : List Int) : vupto (fun j => zs[j]?.getD 0) zs.length = zs := by
  apply List.ext_getElem
  · simp [vupto]
  · intro i h1 h2
    simp [vupto, h2]
set_option maxRecDepth 100000 in
set_option maxHeartbeats 2000000 in
theorem values1_in (F : Fence) (n : Nat) (h7 : F.fn 84) (hro : F.round = none) (hn : 1 ≤ n) (l Bs n₀ b off len cap : Nat) (zs : List Int) (hb : b < n₀) (hlen : len ≤ 9223372036854775807) (J Jx : List Int → World → Prop)
    (hY : ∀ pre x W, J pre W → pre.length < len → YieldAt F (n - 1) Try.prog l #[.int .i64 x] W fun e W' =>
      (e = .returned (.bool true) ∧ J (pre ++ [x]) W' ∧ Below n₀ W W') ∨ (e = .returned (.bool false) ∧ Jx (pre ++ [x]) W'))
    (W : World) (hBs : W.cell? ⟨Bs, 0, none⟩ = some (.slice (some ⟨b, off, none⟩) len cap)) (hc : ∀ j, j < len → W.cell? ⟨b, off + j, none⟩ = some (.int .i64 (zs[j]?.getD 0))) (h0 : J [] W) :
    CallsIn F n Try.prog 84 #[.func (.yield l) #[] #[], .pointer (some ⟨Bs, 0, none⟩)] W fun e W' => (∃ v, e = .returned v) ∧
      ((∃ ys, ys = vupto (fun j => zs[j]?.getD 0) len ∧ J ys W') ∨ (∃ pre, (∃ k, k ≤ len ∧ pre = vupto (fun j => zs[j]?.getD 0) k) ∧ Jx pre W')) := by
  refine callsIn_of_wp Try.func84 rfl h7 ?_ hro
  simp only [Try.ntmps84, List.size_toArray, List.length_cons, List.length_nil, Nat.reduceAdd, Nat.reduceSub, Array.replicate_succ, Array.replicate_zero, List.push_toArray, List.append_toArray, List.nil_append, List.cons_append]
  gi_wp2
  gi_loopw [7] (fun i wr => ∃ k : Nat, k ≤ len ∧ i = .int .i64 k ∧ J (vupto (fun j => zs[j]?.getD 0) k) wr ∧ Below n₀ W wr)
    (fun i _ => len - (intOf i).toNat)
  case atStart => exact ⟨0, Nat.zero_le _, rfl, h0, Below.refl _ _⟩
  case round =>
    obtain ⟨k, hk, rfl, hJs, hnx⟩ := hrel
    have hcx : k < len → wr.cell? ⟨b, off + k, none⟩ = some (.int .i64 (zs[k]?.getD 0)) := fun h => (hnx.cell (p := ⟨b, off + k, none⟩) hb).trans (hc k h)
    by_cases hlt : k < len
    · obtain ⟨fn, tmps, assign, body, hy, hR⟩ := hY _ (zs[k]?.getD 0) wr hJs (by rw [vupto_length]; exact hlt)
      have hcx' := hcx hlt
      gi_wp2
      refine hR.mono ?_
      rintro e W3 (⟨rfl, hJ3, hk3⟩ | ⟨rfl, hJx3⟩)
      · gi_wp2
        go_roundw
        case rel => exact ⟨k + 1, by omega, by simp, by rw [vupto_succ]; exact hJ3, hnx.trans hk3⟩
        case measure => simp [intOf]; omega
      · gi_wp2
        refine bodyPost_ret (results_none rfl _ _ _) rfl ?_
        exact ⟨⟨_, rfl⟩, .inr ⟨_, ⟨k + 1, by omega, (vupto_succ _ _).symm⟩, hJx3⟩⟩
    · obtain rfl : k = len := by omega
      gi_wp2
      go_end0
      exact ⟨⟨_, rfl⟩, .inl ⟨_, rfl, hJs⟩⟩
set_option maxRecDepth 100000 in
set_option maxHeartbeats 1000000 in
theorem values1_nil_in (F : Fence) (n : Nat) (h7 : F.fn 84) (hro : F.round = none) (l Bs cap : Nat) (a : Option Addr) (J : List Int → World → Prop) (W : World) (hBs : W.cell? ⟨Bs, 0, none⟩ = some (.slice a 0 cap)) (h0 : J [] W) :
    CallsIn F n Try.prog 84 #[.func (.yield l) #[] #[], .pointer (some ⟨Bs, 0, none⟩)] W fun e W' => (∃ v, e = .returned v) ∧ J [] W' := by
  refine callsIn_of_wp Try.func84 rfl h7 ?_ hro
  simp only [Try.ntmps84, List.size_toArray, List.length_cons, List.length_nil, Nat.reduceAdd, Nat.reduceSub, Array.replicate_succ, Array.replicate_zero, List.push_toArray, List.append_toArray, List.nil_append, List.cons_append]
  gi_wp2
  gi_loopw [7] (fun i wr => i = .int .i64 0 ∧ J [] wr) (fun _ _ => 0)
  case atStart => exact ⟨rfl, h0⟩
  case round =>
    obtain ⟨rfl, hJs⟩ := hrel
    gi_wp2
    go_end0
    exact ⟨⟨_, rfl⟩, hJs⟩
def IntsB (n₀ : Nat) (W : World) (sv : Value) (zs : List Int) : Prop :=
  (∃ a c, sv = .slice a 0 c ∧ zs = []) ∨ ∃ b off cap, sv = .slice (some ⟨b, off, none⟩) zs.length cap ∧ b < n₀ ∧ ∀ j, j < zs.length → W.cell? ⟨b, off + j, none⟩ = some (.int .i64 (zs[j]?.getD 0))
theorem IntsB.below {n₀ : Nat} {A B : World} (h : Below n₀ A B) {sv : Value} {zs : List Int} : IntsB n₀ A sv zs → IntsB n₀ B sv zs
  | .inl e => .inl e
  | .inr ⟨b, off, cap, e, hb, hc⟩ => .inr ⟨b, off, cap, e, hb, fun j hj => (h.cell (p := ⟨b, off + j, none⟩) hb).trans (hc j hj)⟩
theorem vupto_take (zs : List Int) {k : Nat} (hk : k ≤ zs.length) : vupto (fun j => zs[j]?.getD 0) k = zs.take k := by
  apply List.ext_getElem
  · simp [vupto, hk]
  · intro i h1 h2
    have : i < zs.length := by simp [vupto] at h1; omega
    simp [vupto, this]
theorem values_stops (F : Fence) (n : Nat) (h7 : F.fn 84) (hro : F.round = none) (hn : 1 ≤ n) (Bs n₀ : Nat) (sv : Value) (zs : List Int) (hlen : zs.length ≤ 9223372036854775807) (w : World) (hBs : Bs < w.heap.size) (hn₀ : n₀ ≤ w.heap.size)
    (hc : w.cell? ⟨Bs, 0, none⟩ = some sv) (hI : IntsB n₀ w sv zs) :
    SeqStopsK F n Try.prog 84 #[.pointer (some ⟨Bs, 0, none⟩)] (fun x : Int => #[Value.int .i64 x]) (Below n₀) (fun ys => ys = zs) (fun pre => pre <+: zs) zs.length w := fun l J Jx W hW _ _ hY h0 => by
  have hc' := (hW.cell (p := ⟨Bs, 0, none⟩) hBs).trans hc
  rcases hI.below (hW.mono hn₀) with ⟨a, c, rfl, rfl⟩ | ⟨b, off, cap, rfl, hb, hcs⟩
  · exact (values1_nil_in F n h7 hro l Bs c a J W hc' h0).mono fun e W' ⟨he, hj⟩ => ⟨he, .inl ⟨_, rfl, hj⟩⟩
  · refine (values1_in F n h7 hro hn l Bs n₀ b off zs.length cap zs hb hlen J Jx hY W hc' hcs h0).mono ?_
    rintro e W' ⟨he, ⟨ys, rfl, hj⟩ | ⟨pre, ⟨k, hk, rfl⟩, hj⟩⟩
    · exact ⟨he, .inl ⟨_, vupto_all zs, hj⟩⟩
    · exact ⟨he, .inr ⟨_, by rw [vupto_take zs hk]; exact List.take_prefix _ _, hj⟩⟩
theorem info3z : (Try.prog.info? 3).map (fun i => (i.zero, i.size, i.bytes)) = some (some (.int .i64 0), 1, 8) := by kernel_rfl
set_option maxRecDepth 100000 in
set_option maxHeartbeats 2000000 in
theorem appendSeq_in (F : Fence) (n : Nat) (h3 : F.fn 98) (h5 : F.fn 84) (hro : F.round = none) (hn : 3 ≤ n) (Bs : Nat) (sv : Value) (xs : List Int) (hlen : xs.length ≤ maxLen) (hbytes : xs.length * 8 ≤ 140737488355328) (w : World) (hBs : Bs < w.heap.size)
    (hcs : w.cell? ⟨Bs, 0, none⟩ = some sv) (hL : IntsB w.heap.size w sv xs) :
    CallsIn F n Try.prog 98 #[.slice none 0 0, .func (.func 84) #[] #[.pointer (some ⟨Bs, 0, none⟩)]] w fun e W' => ∃ v, e = .returned v ∧ W'.ownsRow w.heap.size 3 1 v xs.length (xs.map (Value.int .i64)) ∧ Below w.heap.size w W' := by
  have h1 : 1 ≤ n := by omega
  obtain ⟨i0, hi, hz0, hz1, hz2⟩ := info_parts info3z
  refine callsIn_of_wp_marks Try.func98 rfl h3 ?_ hro
  simp only [Try.ntmps98, List.size_toArray, List.length_cons, List.length_nil, Nat.reduceAdd, Nat.reduceSub, Array.replicate_succ, Array.replicate_zero, List.push_toArray, List.append_toArray, List.nil_append, List.cons_append]
  gi_wp2
  have bO := Boxed.new w 30 (.slice none 0 0)
  have hB0 : Below w.heap.size w (w.alloc (.cells #[.slice none 0 0] 30)) := (Below.refl _ w).alloc (Nat.le_refl _) _
  refine wpIn_rangeFunc_ownG hro h1 (gf := 84) (lb := #[.pointer (some ⟨Bs, 0, none⟩)]) rfl h5 (enters_of Try.func84 (by kernel_rfl) rfl)
    (values_stops F (n - 1) h5 hro (by omega) Bs w.heap.size sv xs (by unfold maxLen at hlen; omega) _ (by simp; omega) (by simp) ((hB0.cell (p := ⟨Bs, 0, none⟩) hBs).trans hcs) (hL.below hB0)) belowK_t (belowK_b (by simp)) (Below.refl _ _) (fun _ => rfl)
    (fun pre W => (∃ v, Boxed W w.heap.size 30 v ∧ W.ownsRow w.heap.size 3 1 v pre.length (pre.map (Value.int .i64)) ∧ (v = .slice none 0 0 ↔ pre = [])) ∧ Below w.heap.size w W)
    (fun _ _ _ => False)
    (OwnFrom.and (Own.from (holdsRow_own w.heap.size w.heap.size 30 3 1 (fun pre => pre.length) (fun pre => pre.map (Value.int .i64)) (fun pre v => v = .slice none 0 0 ↔ pre = [])) _) (ownFrom_below (Nat.le_refl _) (by simp)))
    (fun _ _ _ _ _ hs _ _ => hs)
    ⟨⟨_, bO, World.ownsRow_nil _ _ _ _, by simp⟩, hB0⟩
    (fun x => { tmps := #[.slice none 0 0, .func (.func 84) #[] #[.pointer (some ⟨Bs, 0, none⟩)], .pointer (some ⟨w.heap.size, 0, none⟩), undef, .slice none 0 0, .int .i64 x, .func (.func 84) #[] #[.pointer (some ⟨Bs, 0, none⟩)], .int .i64 x, undef, undef, undef, undef, undef], defers := [] }) ?assign ?body ?done ?stop
  case assign =>
    intro l x W K hK
    gi_wp2
    exact hK
  case body =>
    rintro l pre x W ⟨⟨v, hv, hrow, hnil⟩, hB⟩ hlt
    have hc := hv.cell
    gi_wp2_with (gi_at_builtin; refine wpListIn_append_own _ rfl _ _ 30 rfl w.heap.size 3 i0 (.int .i64 0) 1 8 Try.underlying30 hi hz0 hz1 hz2 rfl (by decide) _ _ _ rfl (hrow.alloc _) ⟨W.heap.size, 0, none⟩ 1 1 [.int .i64 x] rfl rfl (cell_one_new _ _ _) (by simp [Value.oneCell']) (by omega) (by omega) (by have := hB.size; simp; omega) ?_; intro v' w1 hown' hgrow _; obtain ⟨g', cap', rfl⟩ := ownsRow_succ hown'; obtain ⟨hv1, hv2, hr2, hk2, hb2⟩ := hv.appended (by decide) hrow hB.size (Nat.le_refl _) hown' hgrow; have hc1 := hv1.cell; have hf1 := hv1.frozen)
    exact ⟨hk2.from _, hb2, ⟨_, hv2, by simpa using hr2, by simp⟩, hB.trans hb2⟩
  case done =>
    rintro D ys W hD rfl ⟨⟨v, hv, hrow, hnil⟩, hB⟩ hK
    have hc := hv.cell
    gi_wp2
    refine ⟨by simp, .inl ⟨_, _, rfl, run_takeDeferred hK, ?_⟩⟩
    exact ⟨_, results_tmp rfl _ _ _, v, rfl, ownsRow_putObj hrow _ hK rfl, hB.trans (belowK_b (w := w) (Nat.le_refl _) W D _ _ (by simp at hD; omega) hK rfl rfl)⟩
  case stop =>
    rintro D c pre W _ _ h _
    exact h.elim
open Go.SL
theorem ints_of {w : World} {v : Value} {l : List Int} (h : slT encZ 1 v l w) (hlt : ∀ b o : Nat, ∀ u, w.cell? ⟨b, o, none⟩ = some u → b < w.heap.size) : IntsB w.heap.size w v l := by
  obtain ⟨_, _, h⟩ := h
  rcases h with ⟨a, c, rfl, hn⟩ | ⟨b, o, cap, rfl, hle, hr⟩
  · exact .inl ⟨a, c, rfl, by simpa using hn⟩
  · rw [List.length_map]
    have hc : ∀ j, j < l.length → w.cell? ⟨b, o + j, none⟩ = some (.int .i64 (l[j]?.getD 0)) := fun j hj => hr j _ (by
      rw [flat_one (enc0 := Value.int .i64) (enc := encZ) (fun _ => rfl), List.getElem?_map, List.getElem?_eq_getElem hj]; rfl)
    by_cases h0 : l = []
    · subst h0; exact .inl ⟨_, _, rfl, rfl⟩
    · have hpos : 0 < l.length := List.length_pos_iff.2 h0
      exact .inr ⟨b, o, cap, rfl, hlt b _ _ (hc 0 hpos), hc⟩
def NewZ (l : List Int) (lab : Nat) (u : Value) (ρ : RL) : Prop := ∃ a c, u = .slice a l.length c ∧ ρ = [(lab, slW 3 encZ 1 (.slice a l.length c) l)]
theorem appendSeq_any {σ : World} {F : List Res} {b : Nat} {v : Value} {l : List Int} (lab : Nat) (hb : Ent σ F (At ⟨b, 0, none⟩ [v])) (h : Sl σ F encZ 1 v l) (hl : l.length ≤ 1099511627776) :
    FnT Try.prog σ F 98 [.slice none 0 0, .func (.func 84) #[] #[.pointer (some ⟨b, 0, none⟩)]] [] (NewZ l lab) := by
  intro w ho
  have ho' : SL.Own σ F w := ho
  have hcell : w.cell? ⟨b, 0, none⟩ = some v := by
    obtain ⟨b', o', e, hr⟩ := hb w ho'
    cases e; exact hr 0 v rfl
  have hlt : ∀ b o : Nat, ∀ u, w.cell? ⟨b, o, none⟩ = some u → b < w.heap.size := fun b o u h => cell_lt h
  refine ((callsIn_wide (n := 3)).1 (appendSeq_in Fence.wide 3 trivial trivial rfl (Nat.le_refl _) b v l (by unfold maxLen; omega) (by omega) w (hlt b 0 v hcell) hcell (ints_of (h.ent w ho') hlt))).mono ?_
  rintro e W' ⟨u, rfl, hrow, hbel⟩
  have hrow' : W'.ownsRow w.heap.size 3 1 u l.length (l.map encZ).flatten := by rw [flat_one (enc0 := Value.int .i64) (enc := encZ) (fun _ => rfl)]; exact hrow
  obtain ⟨a, c, rfl, hown⟩ := own_row ho' hbel hrow' (fun _ => rfl) (by unfold maxLen; omega)
  exact ⟨_, _, rfl, ⟨a, c, rfl, rfl⟩, hown⟩
end Go.Proofs.Ytecmigildpkigaa.Ser
namespace Go.Proofs.Ytecmigildpkigaa.Ser
open Go Go.SL Go.RowKit
set_option linter.unusedVariables false
set_option linter.unusedSimpArgs false
theorem tO3a : oneB Try.prog 3 = true := by kernel_rfl
theorem tP30a : appB Try.prog 30 3 1 8 = true := by kernel_rfl
theorem tS30a : sliceB Try.prog 30 3 1 = true := by kernel_rfl
theorem take_snoc {α : Type} {l : List α} {i : Nat} {x : α} (h : l[i]? = some x) : l.take (i + 1) = l.take i ++ [x] := by rw [List.take_add_one, h]; rfl
theorem take_all {α : Type} {l : List α} {i : Nat} (h : ¬ i < l.length) : l.take i = l := List.take_of_length_le (by omega)
def srt (l : List Int) : List Int := l.mergeSort fun x y => decide (x ≤ y)
theorem length_srt (l : List Int) : (srt l).length = l.length := List.length_mergeSort l
theorem srt_perm (l : List Int) : (srt l).Perm l := List.mergeSort_perm l _
theorem srt_le (l : List Int) : (srt l).Pairwise (· ≤ ·) := by
  have := List.pairwise_mergeSort (le := fun x y : Int => decide (x ≤ y)) (fun a b c h1 h2 => by simp at *; omega) (fun a b => by simp; omega) l
  exact this.imp fun h => by simpa using h
theorem sort_any {σ : World} {F : List Res} {l : List Int} {a : Option Addr} {c : Nat} (lab : Nat) (hl : l.length < 4611686018427387904) :
    FnT Try.prog σ F 69 [.slice a l.length c] [(lab, slW 3 encZ 1 (.slice a l.length c) l)] (fun u ρ => u = .tuple #[] ∧ ρ = [(lab, slW 3 encZ 1 (.slice a l.length c) (srt l))]) :=
  fn_sort (enc0 := Value.int .i64) (enc := encZ) (fun _ => rfl) length_srt (fun g cap l w hH hg hl => Try.slices_Sort_int g 0 cap l w hH hg hl) (fun a cap w => Try.slices_Sort_int_none a cap w) lab hl
set_option maxHeartbeats 400000 in
set_option maxRecDepth 100000 in
theorem cloneI {σ : World} {F : List Res} {a : Option Addr} {c : Nat} {rl : List Int} (lab : Nat) (h : Sl σ F encZ 1 (.slice a rl.length c) rl) (hl : rl.length ≤ 1099511627776) :
    FnT Try.prog σ F 43 [.slice a rl.length c] [] (NewZ rl lab) := by
  refine fn_of 8 Try.func43 rfl Try.ntmps43 rfl ?_
  have hle := h.i64
  refine w_seq (w_region (za rfl (wl_nil (st_tn (w_seq (w_seq (w_region (zm rfl (zd rfl (op_eqNil rfl tS30a) (wl_nil (st_tn (w_cond rfl (fun hc4 => ?_) (fun hc4 => ?_)))))))))))))
  · -- c4.t
    obtain rfl : a = none := by simpa using hc4
    refine w_fact (Ent.app (Sl.nil_of h) _) (fun hnil => ?_)
    subst hnil
    refine w_emp 7 (slO_nil 3 1) ?_
    refine w_seq (w_region (za rfl (wl_nil (st_tn (w_ret (st_tr (st_ret (vs := [_]) [7] Try.results43 ⟨rfl, trivial⟩ rfl ?_)))))))
    refine ⟨[(lab, _)], rfl, ?_⟩
    exact ⟨none, 0, rfl, rfl⟩
  · -- c4.f
    refine w_skip (st_tn (w_seq (w_region (wl_op [] rfl rfl rfl rfl (op_lit0 (enc := SL.encZ) (lab := 5) tS30a) ?_))))
    rintro _ _ ⟨a5, c5, rfl, rfl⟩
    refine zm rfl (wl_op [5] rfl rfl rfl rfl (op_append (lab := 5) (lab' := 7) rfl rfl tP30a SL.enc1Z (by first | exact Sl.app (by assumption) _ | exact Sl.app (Sl.app (by assumption) _) _) (by first | omega | (simp; done) | (simp; omega) | (simp [*]; omega)) (by first | omega | (simp; done) | (simp; omega) | (simp [*]; omega))) ?_)
    rintro _ _ ⟨a7, c7, rfl, rfl⟩
    refine za rfl (wl_nil (st_tn (w_ret (st_ret (vs := [_]) [7] Try.results43 ⟨rfl, trivial⟩ rfl ?_))))
    refine ⟨[(lab, _)], rfl, ?_⟩
    exact ⟨a7, c7, rfl, rfl⟩
set_option maxHeartbeats 400000 in
set_option maxRecDepth 100000 in
theorem collect_any {σ : World} {F : List Res} {b : Nat} {v : Value} {l : List Int} (lab : Nat) (hb : Ent σ F (At ⟨b, 0, none⟩ [v])) (h : Sl σ F encZ 1 v l) (hl : l.length ≤ 1099511627776) :
    FnT Try.prog σ F 83 [.func (.func 84) #[] #[.pointer (some ⟨b, 0, none⟩)]] [] (NewZ l lab) := by
  refine fn_of 5 Try.func83 rfl Try.ntmps83 rfl ?_
  refine w_seq (w_region (za rfl (wl_nil (st_tn (w_seq (w_region (zm rfl (wl_op [] rfl rfl rfl rfl (op_fn Try.func98 rfl rfl rfl (appendSeq_any 4 (Ent.app hb _) (Sl.app h _) hl)) ?_))))))))
  rintro _ _ ⟨a4, c4, rfl, rfl⟩
  refine za rfl (wl_nil (st_tn (w_ret (st_ret (vs := [_]) [4] Try.results83 ⟨rfl, trivial⟩ rfl ?_))))
  refine ⟨[(lab, _)], rfl, ?_⟩
  exact ⟨a4, c4, rfl, rfl⟩
set_option maxHeartbeats 400000 in
set_option maxRecDepth 100000 in
theorem sorted_any {σ : World} {F : List Res} {b : Nat} {v : Value} {l : List Int} (lab : Nat) (hb : Ent σ F (At ⟨b, 0, none⟩ [v])) (h : Sl σ F encZ 1 v l) (hl : l.length ≤ 1099511627776) :
    FnT Try.prog σ F 76 [.func (.func 84) #[] #[.pointer (some ⟨b, 0, none⟩)]] [] (NewZ (srt l) lab) := by
  refine fn_of 9 Try.func76 rfl Try.ntmps76 rfl ?_
  refine w_seq (w_region (za rfl (wl_nil (st_tn (w_seq (w_region (zm rfl (wl_op [] rfl rfl rfl rfl (op_fn Try.func83 rfl rfl rfl (collect_any 5 (Ent.app hb _) (Sl.app h _) hl)) ?_))))))))
  rintro _ _ ⟨a5, c5, rfl, rfl⟩
  refine za rfl (wl_nil (st_tn (w_seq (w_region (zm rfl (wl_op [5] rfl rfl rfl rfl (op_fn Try.func69 rfl rfl rfl (sort_any 5 (by omega))) ?_))))))
  rintro _ _ ⟨rfl, rfl⟩
  refine wl_nil (st_tn (w_seq (w_region (zm rfl (za rfl (wl_nil (st_tn (w_ret (st_ret (vs := [_]) [5] Try.results76 ⟨rfl, trivial⟩ rfl ?_)))))))))
  refine ⟨[(lab, _)], rfl, ?_⟩
  exact ⟨a5, c5, by rw [length_srt]; rfl, by rw [length_srt]⟩
set_option maxHeartbeats 400000 in
set_option maxRecDepth 100000 in
theorem values_any {σ : World} {F : List Res} {v : Value} (lab : Nat) :
    FnT Try.prog σ F 77 [v] [] (fun u ρ => ∃ b, u = .func (.func 84) #[] #[.pointer (some ⟨b, 0, none⟩)] ∧ ρ = [(lab, cel b v.cells.toList 30)]) := by
  refine fn_of 4 Try.func77 rfl Try.ntmps77 rfl ?_
  refine w_seq (w_region (wl_op [] rfl rfl rfl rfl (op_box (T := 30) (l := 1) rfl) ?_))
  rintro _ _ ⟨b1, rfl, rfl⟩
  refine za rfl (wl_nil (st_tn (w_seq (w_region (zd rfl (op_makeFunc rfl rfl) (za rfl (wl_nil (st_tn (w_ret (st_ret (vs := [_]) [1] Try.results77 ⟨rfl, trivial⟩ rfl ?_))))))))))
  refine ⟨[(lab, _)], rfl, ?_⟩
  exact ⟨b1, rfl, rfl⟩
set_option maxHeartbeats 400000 in
set_option maxRecDepth 100000 in
theorem indexFuncI {σ : World} {F : List Res} {a : Option Addr} {c : Nat} {rl : List Int} {g : Nat} {gn : Func} {fs cs : List Value} {p : Int → Bool} (h : Sl σ F encZ 1 (.slice a rl.length c) rl)
    (hg : Try.prog.funcs[g]? = some gn) (hgb : gn.body.isSome = true) (hgn : (gn.name == "runtime.NumGoroutine") = false) (hp : ∀ (X : List Res) (r : Int), FnT Try.prog σ (X ++ F) g (fs ++ [.int .i64 r] ++ cs) [] (fun u ρ => u = .bool (p r) ∧ ρ = [])) :
    FnT Try.prog σ F 68 [.slice a rl.length c, .func (.func g) fs.toArray cs.toArray] [] (fun u ρ => u = .int .i64 (match rl.findIdx? p with | some i => (i : Int) | none => -1) ∧ ρ = []) := by
  refine fn_of 19 Try.func68 rfl Try.ntmps68 rfl ?_
  have hle := h.i64
  refine w_seq (w_region (za rfl (wl_nil (st_tn (w_seq (w_seq (w_region (zm rfl (zd rfl (op_lenT rfl tS30a (Sl.ent (by first | exact Sl.app (by assumption) _ | exact Sl.app (Sl.app (by assumption) _) _))) ?_)))))))))
  refine zm rfl (wl_nil (st_tn (w_block ?_)))
  refine w_loopQ (X := Nat) (fun z => z ≤ rl.length ∧ ∀ r ∈ rl.take z, p r = false) (fun z => [(8, .int .i64 (z))]) (fun _ => []) (fun z => rl.length - z) (0) [(0, _), (1, _), (7, _)] [] [] rfl (rfl) (.cons rfl (.nil _)) (.cons rfl (.cons rfl (.cons rfl (.nil _)))) (by
      try dsimp only
      exact ⟨Nat.zero_le _, by simp⟩) ?_
  rintro i ⟨hi, hn⟩
  refine w_norm2 (by dsimp only [List.cons_append, List.nil_append]) (by dsimp only [List.cons_append, List.nil_append]) ?_
  try dsimp only at hi hn ⊢
  refine w_seq (w_region (zd rfl (op_lss rfl rfl) (wl_nil (st_tn (w_seq (w_cond_d rfl (fun hc9 => ?_) (fun hc9 => ?_)))))))
  · -- c9.t
    obtain ⟨r, hr⟩ := getE (l := rl) (i := i) (by omega)
    have hlt := ltE hr
    refine w_skip (st_tn (w_seq (w_block (w_seq (w_region (zm rfl (za rfl (wl_nil (st_tn (w_seq (w_region (zm rfl (zm rfl ?_)))))))))))))
    refine zm rfl (zd rfl (op_idx rfl rfl tS30a (Sl.ent (by first | exact Sl.app (by assumption) _ | exact Sl.app (Sl.app (by assumption) _) _)) (by omega)) ?_)
    refine zd rfl (op_ldx rfl tO3a (by first | exact Sl.app (by assumption) _ | exact Sl.app (Sl.app (by assumption) _) _) (by assumption) (by rfl)) ?_
    refine zd rfl (op_fnv hg hgb hgn rfl rfl (hp _ r)) (wl_nil (st_tn (w_cond rfl (fun hc16 => ?_) (fun hc16 => ?_))))
    · -- c16.t
      refine w_seq (w_region (zm rfl (za rfl (wl_nil (st_tn (w_ret (st_br (st_tr (st_tr (st_br (st_tr (st_ret (vs := [_]) [] Try.results68 ⟨rfl, trivial⟩ rfl ?_))))))))))))
      refine ⟨_, rfl, ?_⟩
      refine ⟨?_, rfl⟩
      have : rl.findIdx? p = some i := by
        rw [List.findIdx?_eq_some_iff_getElem]
        obtain ⟨hlt', hge⟩ := List.getElem?_eq_some_iff.1 hr
        refine ⟨hlt', by rw [hge]; exact hc16, fun j hj => ?_⟩
        rw [hn _ (List.mem_take_iff_getElem.2 ⟨j, by omega, rfl⟩)]; simp
      rw [this]; rfl
    · -- c16.f
      refine w_skip (st_bn (st_tn (w_region (zd rfl (op_add' rfl rfl (by omega)) ?_))))
      refine zm rfl (wl_nil ?_)
      refine st_roundQ (x := i) (i + 1) [] rfl (rfl) (.cons rfl (.nil _)) (.cons rfl (.cons rfl (.cons rfl (.nil _)))) (by
          try dsimp only
          refine ⟨by omega, by rw [take_snoc hr]; intro q hq; rcases List.mem_append.1 hq with hq | hq; (· exact hn q hq); (· simp at hq; subst hq; exact hc16)⟩) (by
          try dsimp only
          omega)
  · -- c9.f
    refine w_exit (st_te ?_)
    refine st_te ?_
    refine st_be (st_tn (w_seq (w_region (za rfl (wl_nil (st_tn (w_ret (st_ret (vs := [_]) [] Try.results68 ⟨rfl, trivial⟩ rfl ?_))))))))
    refine ⟨_, rfl, ?_⟩
    refine ⟨?_, rfl⟩; rw [take_all (by omega)] at hn
    have : rl.findIdx? p = none := by rw [List.findIdx?_eq_none_iff]; exact hn
    rw [this]; rfl
set_option maxHeartbeats 400000 in
set_option maxRecDepth 100000 in
theorem containsFuncI {σ : World} {F : List Res} {a : Option Addr} {c : Nat} {rl : List Int} {g : Nat} {gn : Func} {fs cs : List Value} {p : Int → Bool} (h : Sl σ F encZ 1 (.slice a rl.length c) rl)
    (hg : Try.prog.funcs[g]? = some gn) (hgb : gn.body.isSome = true) (hgn : (gn.name == "runtime.NumGoroutine") = false) (hp : ∀ (X : List Res) (r : Int), FnT Try.prog σ (X ++ F) g (fs ++ [.int .i64 r] ++ cs) [] (fun u ρ => u = .bool (p r) ∧ ρ = [])) :
    FnT Try.prog σ F 62 [.slice a rl.length c, .func (.func g) fs.toArray cs.toArray] [] (fun u ρ => u = .bool (rl.any p) ∧ ρ = []) := by
  refine fn_of 9 Try.func62 rfl Try.ntmps62 rfl ?_
  refine w_seq (w_region (za rfl (wl_nil (st_tn (w_seq (w_region (zm rfl (zm rfl (zd rfl (op_fn Try.func68 rfl rfl rfl (indexFuncI (Sl.app h _) hg hgb hgn (fun X r => by simpa using hp (X ++ rs []) r))) ?_)))))))))
  refine zd rfl (op_geq rfl rfl) (za rfl (wl_nil (st_tn (w_ret (st_ret (vs := [_]) [] Try.results62 ⟨rfl, trivial⟩ rfl ?_)))))
  refine ⟨_, rfl, ?_⟩
  refine ⟨?_, rfl⟩
  cases hf : rl.findIdx? p with
  | none => rw [List.findIdx?_eq_none_iff] at hf; simp [retv]; intro x hx; exact hf x hx
  | some i => obtain ⟨hlt, h1, _⟩ := List.findIdx?_eq_some_iff_getElem.1 hf; simp [retv]; exact ⟨_, List.getElem_mem hlt, h1⟩
end Go.Proofs.Ytecmigildpkigaa.Ser
namespace Go.Proofs.Ytecmigildpkigaa.Ser
open Go Go.SL Go.RowKit
set_option linter.unusedVariables false
set_option linter.unusedSimpArgs false
theorem tA29b : aggB Try.prog 29 2 = true := by kernel_rfl
theorem tB29b : placesB Try.prog 29 = some ([(0, 1), (1, 1)], [Value.int .i64 0, Value.int .i64 0]) := by kernel_rfl
theorem tF29_0b : fieldB Try.prog 29 0 0 = true := by kernel_rfl
theorem tMixb : Try.prog.follows .mixedOrders = true := by kernel_rfl
theorem tN29b : (Try.prog.info? 29).bind (·.zero) = some (Value.agg #[Value.int .i64 0, Value.int .i64 0]) := by kernel_rfl
theorem tO3b : oneB Try.prog 3 = true := by kernel_rfl
theorem tZ29b : (Try.prog.info? 29).map (·.size) = some 2 := by kernel_rfl
theorem tZ3b : (Try.prog.info? 3).map (·.size) = some 1 := by kernel_rfl
def encY (x : Int) : List Value := [.int .u8 x]
theorem eq24 (a b c d : Int) (w : World) : (Op.equal 29 (.agg #[.int .i64 a, .int .i64 b]) (.agg #[.int .i64 c, .int .i64 d])).run Try.prog w = .ok (decide ((a, b) = (c, d))) w := by
  have hs : Try.prog.stoodInHeld 29 = false := by kernel_rfl
  have hf : Try.prog.fieldsOf 29 = #[{ name := "Num", type := 3, offset := 0, embedded := false, tag := "", pkgPath := "", byteOffset := 0 }, { name := "Den", type := 3, offset := 1, embedded := false, tag := "", pkgPath := "", byteOffset := 8 }] := by kernel_rfl
  have ha : ∀ w, (isAgg 3).run Try.prog w = .ok false w := fun w => by unfold isAgg; rw [Sem.run_bind, run_underlying Try.underlying3 w]; rfl
  show (Op.equalIn (9999 + 1) 29 _ _).run Try.prog w = _
  rw [run_equalIn_agg w 9999 29 _ _ (by kernel_rfl) hs, hf]
  simp only [Op.eqFields, List.toList_toArray]
  simp [part, Sem.run_bind, ha, run_equalIn_int w 9998 3 .i64 .i64 _ _ Try.underlying3, Op.eqFields]
  by_cases h1 : a = c <;> by_cases h2 : b = d <;> simp [h1, h2, part, Sem.run_bind, ha, run_equalIn_int w 9998 3 .i64 .i64 _ _ Try.underlying3, Op.eqFields]
set_option maxHeartbeats 400000 in
set_option maxRecDepth 100000 in
theorem gcd_any {σ : World} {F : List Res} (a b : Nat) (ha : a ≤ 18446744073709551615) (hb : b ≤ 18446744073709551615) :
    FnT Try.prog σ F 97 [.int .u64 a, .int .u64 b] [] (fun u ρ => u = .int .u64 (Nat.gcd a b : Nat) ∧ ρ = []) := by
  refine fn_of 12 Try.func97 rfl Try.ntmps97 rfl ?_
  refine w_seq (w_region (za rfl (wl_nil (st_tn (w_seq (w_block ?_))))))
  refine w_loopQ (X := Nat × Nat) (fun z => (z.1 ≤ 18446744073709551615 ∧ z.2 ≤ 18446744073709551615) ∧ Nat.gcd z.1 z.2 = Nat.gcd a b) (fun z => [(0, .int .u64 (z.1)), (1, .int .u64 (z.2))]) (fun _ => []) (fun z => z.2) ((a, b)) [] [] [] rfl (rfl) (.cons rfl (.cons rfl (.nil _))) (.nil _) (by
      try dsimp only
      exact ⟨⟨ha, hb⟩, rfl⟩) ?_
  rintro ⟨x, y⟩ ⟨⟨hx, hy⟩, hg⟩
  refine w_norm2 (by dsimp only [List.cons_append, List.nil_append]) (by dsimp only [List.cons_append, List.nil_append]) ?_
  try dsimp only at hx hy hg ⊢
  refine w_seq (w_seq (w_region (zm rfl (zd rfl (op_neq rfl rfl) (wl_nil (st_tn (w_cond_d rfl (fun hc6 => ?_) (fun hc6 => ?_))))))))
  · -- c6.t
    refine w_skip (st_tn (w_block ?_))
    refine w_draw (D := [⟨7, [], [], [], _, false, [], []⟩, ⟨8, [], [], [], _, false, [], [0]⟩, ⟨9, [], [], [], _, false, [], []⟩, ⟨10, [1, 2], [], [], _, false, [], []⟩, ⟨0, [0], [], [], _, false, [], []⟩]) [] [1] [⟨7, [], [], false, [], []⟩, ⟨8, [], [], false, [], [0]⟩, ⟨9, [], [], false, [], []⟩, ⟨10, [1, 2], [], false, [], []⟩, ⟨0, [0], [], false, [], []⟩] tMixb (by rfl) (by kernel_rfl) (by rfl) (by rfl)
        ⟨.plain rfl (by intro X; exact op_move rfl),
        ⟨.plain rfl (by intro X; exact op_move rfl),
        ⟨.plain rfl (by intro X; exact op_move rfl),
        ⟨.plain rfl (by intro X; rintro _ _ ⟨rfl, rfl⟩ _ _ ⟨rfl, rfl⟩; exact op_remN rfl rfl (by omega) (by omega)),
        ⟨.plain rfl (by intro X; rintro _ _ ⟨rfl, rfl⟩; exact op_assign rfl),
        trivial⟩⟩⟩⟩⟩ ?_
    rintro _ _ ⟨rfl, rfl⟩ _ _ ⟨rfl, rfl⟩ _ _ ⟨rfl, rfl⟩ _ _ ⟨rfl, rfl⟩ _ _ ⟨rfl, rfl⟩
    refine wl_norm (e' := [(0, _), (10, _)]) (.cons rfl (.cons rfl (.nil _))) (by dsimp only [cond_false, cond_true, List.nil_append, List.cons_append]) ?_
    refine za rfl (wl_nil (st_bn ?_))
    refine st_roundQ (x := (x, y)) ((y, x % y)) [] rfl (rfl) (.cons rfl (.cons rfl (.nil _))) (.nil _) (by
        try dsimp only
        exact ⟨⟨hy, by have := Nat.mod_lt x (show 0 < y by omega); omega⟩, by rw [← hg, Nat.gcd_comm x y, Nat.gcd_rec y x, Nat.gcd_comm]⟩) (by
        try dsimp only
        exact Nat.mod_lt x (by omega))
  · -- c6.f
    refine w_exit (st_te ?_)
    refine st_te ?_
    refine st_be (st_tn (w_seq (w_region (zm rfl (za rfl (wl_nil (st_tn (w_ret (st_ret (vs := [_]) [] Try.results97 ⟨rfl, trivial⟩ rfl ?_)))))))))
    refine ⟨_, rfl, ?_⟩
    refine ⟨?_, rfl⟩; have h0 : y = 0 := by omega
    subst h0; rw [← hg, Nat.gcd_zero_right]; rfl
set_option maxHeartbeats 400000 in
set_option maxRecDepth 100000 in
theorem mag_any {σ : World} {F : List Res} (x : Int) (hx : -9223372036854775808 ≤ x ∧ x ≤ 9223372036854775807) :
    FnT Try.prog σ F 96 [.int .i64 x] [] (fun u ρ => u = .int .u64 (x.natAbs : Nat) ∧ ρ = []) := by
  refine fn_of 10 Try.func96 rfl Try.ntmps96 rfl ?_
  refine w_seq (w_region (za rfl (wl_nil (st_tn (w_seq (w_seq (w_region (zm rfl (zd rfl (op_lss rfl rfl) (wl_nil (st_tn (w_cond_d rfl (fun hc4 => ?_) (fun hc4 => ?_)))))))))))))
  · -- c4.t
    refine w_seq (w_region (zm rfl (zd rfl (op_val (v' := .int .u64 (x + 18446744073709551616)) (by rw [wrap_u64_neg (by omega)]) (op_conv rfl (by rw [Try.underlying3]; rfl) Try.underlying159)) ?_)))
    refine zd rfl (op_val (v' := .int .u64 (-x)) (by rw [show (0 : Int) - (x + 18446744073709551616) = -x - 18446744073709551616 by omega]; simp [IntKind.wrap, IntKind.bits, IntKind.signed]; omega) (op_negK rfl)) ?_
    refine za rfl (wl_nil (st_tn (w_ret (st_tr (st_ret (vs := [_]) [] Try.results96 ⟨rfl, trivial⟩ rfl ?_)))))
    refine ⟨_, rfl, ?_⟩
    refine ⟨?_, rfl⟩; show Value.int .u64 (-x) = _; congr 1; omega
  · -- c4.f
    refine w_skip (st_tn (w_seq (w_region (zm rfl (zd rfl (op_convU64 rfl (by rw [Try.underlying3]; rfl) Try.underlying159 (by omega)) ?_)))))
    refine za rfl (wl_nil (st_tn (w_ret (st_ret (vs := [_]) [] Try.results96 ⟨rfl, trivial⟩ rfl ?_))))
    refine ⟨_, rfl, ?_⟩
    refine ⟨?_, rfl⟩; show Value.int .u64 x = _; congr 1; omega
def mkF (num den : Int) : Int × Int × Int :=
  if den = 0 then (0, 0, 19) else
  if num.natAbs / Nat.gcd num.natAbs den.natAbs > 1048576 ∨ den.natAbs / Nat.gcd num.natAbs den.natAbs > 1048576 then (0, 0, 20) else
  ((if (decide (num < 0)) != (decide (den < 0)) then -((num.natAbs / Nat.gcd num.natAbs den.natAbs : Nat) : Int) else ((num.natAbs / Nat.gcd num.natAbs den.natAbs : Nat) : Int)), ((den.natAbs / Nat.gcd num.natAbs den.natAbs : Nat) : Int), 0)
theorem mkF_ok {num den : Int} (h : mkF num den = (num, den, 0)) : den ≠ 0 ∧ -1048576 ≤ num ∧ num ≤ 1048576 ∧ 0 ≤ den ∧ den ≤ 1048576 := by
  unfold mkF at h
  split at h
  · simp at h
  · rename_i h0
    split at h
    · simp at h
    · rename_i h1
      simp only [Prod.mk.injEq] at h
      obtain ⟨e1, e2, _⟩ := h
      refine ⟨h0, ?_⟩
      generalize num.natAbs / Nat.gcd num.natAbs den.natAbs = p at *
      generalize den.natAbs / Nat.gcd num.natAbs den.natAbs = q at *
      split at e1 <;> omega
set_option maxHeartbeats 1000000 in
set_option maxRecDepth 100000 in
theorem mk_any {σ : World} {F : List Res} (x y : Int) (hx : -9223372036854775808 ≤ x ∧ x ≤ 9223372036854775807) (hy : -9223372036854775808 ≤ y ∧ y ≤ 9223372036854775807) :
    FnT Try.prog σ F 82 [.int .i64 x, .int .i64 y] [] (fun u ρ => u = .tuple #[.agg #[.int .i64 (mkF x y).1, .int .i64 (mkF x y).2.1], .int .i64 (mkF x y).2.2] ∧ ρ = []) := by
  refine fn_of 48 Try.func82 rfl Try.ntmps82 rfl ?_
  have hax : x.natAbs ≤ 9223372036854775808 := by omega
  have hay : y.natAbs ≤ 9223372036854775808 := by omega
  refine w_seq (w_region (wl_op [] rfl rfl rfl rfl (op_alloc (l := 4) tN29b) ?_))
  rintro _ _ ⟨b4, rfl, rfl⟩
  refine za rfl (wl_nil (st_tn (w_seq (w_seq (w_region (zm rfl (zd rfl (op_eql rfl rfl) (wl_nil (st_tn (w_cond_d rfl (fun hc11 => ?_) (fun hc11 => ?_)))))))))))
  · -- c11.t
    refine w_seq (w_region (zd rfl (op_build tB29b rfl rfl) (wl_op0 [4] rfl rfl rfl (op_store rfl rfl tZ29b (by rfl) (by rfl) (by exact Nat.le_of_ble_eq_true rfl)) ?_)))
    rintro _ _ ⟨rfl, rfl⟩
    refine za rfl (wl_nil (st_tn (w_ret (st_tr (st_ret (vs := [_, _]) [] Try.results82 ⟨⟨_, rfl, Ent.mono (Ent.lab (l := 4) rfl (says_cel 0)) (fun _ h => run_load_agg tA29b h (Nat.le_of_ble_eq_true rfl))⟩, ⟨rfl, trivial⟩⟩ rfl ?_)))))
    refine ⟨_, rfl, ?_⟩
    rw [show mkF x y = (0, 0, 19) by unfold mkF; rw [if_pos hc11]]; exact ⟨rfl, rfl⟩
  · -- c11.f
    have hgp : 0 < Nat.gcd x.natAbs y.natAbs := Nat.gcd_pos_of_pos_right _ (by omega)
    have hqx : ((x.natAbs : Int) / (Nat.gcd x.natAbs y.natAbs : Nat)) = ((x.natAbs / Nat.gcd x.natAbs y.natAbs : Nat) : Int) := by rw [Int.natCast_ediv]
    have hqy : ((y.natAbs : Int) / (Nat.gcd x.natAbs y.natAbs : Nat)) = ((y.natAbs / Nat.gcd x.natAbs y.natAbs : Nat) : Int) := by rw [Int.natCast_ediv]
    refine w_skip (st_tn (w_seq (w_region (zm rfl (zd rfl (op_fn Try.func96 rfl rfl rfl (mag_any _ (by omega))) ?_)))))
    refine zm rfl (zd rfl (op_fn Try.func96 rfl rfl rfl (mag_any _ (by omega))) ?_)
    refine za rfl (za rfl (wl_nil (st_tn (w_seq (w_region (zm rfl (zm rfl (zd rfl (op_fn Try.func97 rfl rfl rfl (gcd_any _ _ (by omega) (by omega))) ?_))))))))
    refine za rfl (wl_nil (st_tn (w_seq ?_)))
    refine w_draw (D := [⟨20, [], [], [], _, false, [], [6]⟩, ⟨21, [], [], [], _, false, [], []⟩, ⟨22, [0, 1], [], [], _, false, [], []⟩, ⟨23, [], [], [], _, false, [], []⟩, ⟨24, [], [], [], _, false, [], []⟩, ⟨25, [3, 4], [], [], _, false, [], []⟩, ⟨6, [2], [], [], _, false, [], []⟩]) [] [8, 7] [⟨20, [], [], false, [], [6]⟩, ⟨21, [], [], false, [], []⟩, ⟨22, [0, 1], [], false, [], []⟩, ⟨23, [], [], false, [], []⟩, ⟨24, [], [], false, [], []⟩, ⟨25, [3, 4], [], false, [], []⟩, ⟨6, [2], [], false, [], []⟩] tMixb (by rfl) (by kernel_rfl) (by rfl) (by rfl)
        ⟨.plain rfl (by intro X; exact op_move rfl),
        ⟨.plain rfl (by intro X; exact op_move rfl),
        ⟨.plain rfl (by intro X; rintro _ _ ⟨rfl, rfl⟩ _ _ ⟨rfl, rfl⟩; exact op_val (v' := .int .u64 ((x.natAbs / Nat.gcd x.natAbs y.natAbs : Nat) : Int)) (by rw [hqx]) (op_quoU rfl rfl (by omega) (by omega) (by omega))),
        ⟨.plain rfl (by intro X; exact op_move rfl),
        ⟨.plain rfl (by intro X; exact op_move rfl),
        ⟨.plain rfl (by intro X; rintro _ _ ⟨rfl, rfl⟩ _ _ ⟨rfl, rfl⟩; exact op_val (v' := .int .u64 ((y.natAbs / Nat.gcd x.natAbs y.natAbs : Nat) : Int)) (by rw [hqy]) (op_quoU rfl rfl (by omega) (by omega) (by omega))),
        ⟨.plain rfl (by intro X; rintro _ _ ⟨rfl, rfl⟩; exact op_assign rfl),
        trivial⟩⟩⟩⟩⟩⟩⟩ ?_
    rintro _ _ ⟨rfl, rfl⟩ _ _ ⟨rfl, rfl⟩ _ _ ⟨rfl, rfl⟩ _ _ ⟨rfl, rfl⟩ _ _ ⟨rfl, rfl⟩ _ _ ⟨rfl, rfl⟩ _ _ ⟨rfl, rfl⟩
    refine wl_norm (e' := [(0, _), (1, _), (4, _), (6, _), (25, _)]) (.cons rfl (.cons rfl (.cons rfl (.cons rfl (.cons rfl (.nil _)))))) (by dsimp only [cond_false, cond_true, List.nil_append, List.cons_append]) ?_
    refine za rfl (wl_nil (st_tn (w_seq (w_seq ?_))))
    generalize hp : x.natAbs / Nat.gcd x.natAbs y.natAbs = p
    generalize hq : y.natAbs / Nat.gcd x.natAbs y.natAbs = q
    refine w_cutL [(31, .bool (decide (p > 1048576 ∨ q > 1048576)))] [0, 1, 4, 6, 7] [4] rfl (fun K' hK => ?_) ?_
    · -- cut r6
      refine w_region (zm rfl (zd rfl (op_gtr rfl rfl) (zm rfl (wl_gsplit (t := 28) rfl (fun hg28 => ?_) (fun hg28 => ?_)))))
      · -- 28 is True
        refine wl_unwanted rfl rfl rfl rfl rfl rfl rfl rfl (wl_unwanted rfl rfl rfl rfl rfl rfl rfl rfl (zd rfl (op_pick_t rfl rfl) (wl_nil (st_tn ?_))))
        exact cut_done1 [4] hK rfl (by first | (rw [decide_eq_decide]; omega) | (symm; rw [decide_eq_false_iff_not]; omega) | (symm; rw [decide_eq_true_iff]; omega) | (simp; done) | (simp; omega) | (simp [*]; done) | (simp [*]; omega)) (by rfl) rfl rfl
      · -- 28 is False
        refine wl_wanted_det rfl rfl rfl rfl rfl rfl rfl (op_move rfl) (wl_wanted_det rfl rfl rfl rfl rfl rfl rfl (op_gtr rfl rfl) (zd rfl (op_pick_f rfl rfl) (wl_nil (st_tn ?_))))
        exact cut_done1 [4] hK rfl (by first | (rw [decide_eq_decide]; omega) | (symm; rw [decide_eq_false_iff_not]; omega) | (symm; rw [decide_eq_true_iff]; omega) | (simp; done) | (simp; omega) | (simp [*]; done) | (simp [*]; omega)) (by rfl) rfl rfl
    · -- behind r6
      show W _ _ _ _ _ [(31, _), (0, _), (1, _), (4, _), (6, _), (7, _)] [(4, _)] _
      refine w_cond_d rfl (fun hc31 => ?_) (fun hc31 => ?_)
      · -- c31.t
        refine w_seq (w_region (zd rfl (op_build tB29b rfl rfl) (wl_op0 [4] rfl rfl rfl (op_store rfl rfl tZ29b (by rfl) (by rfl) (by exact Nat.le_of_ble_eq_true rfl)) ?_)))
        rintro _ _ ⟨rfl, rfl⟩
        refine za rfl (wl_nil (st_tn (w_ret (st_tr (st_ret (vs := [_, _]) [] Try.results82 ⟨⟨_, rfl, Ent.mono (Ent.lab (l := 4) rfl (says_cel 0)) (fun _ h => run_load_agg tA29b h (Nat.le_of_ble_eq_true rfl))⟩, ⟨rfl, trivial⟩⟩ rfl ?_)))))
        refine ⟨_, rfl, ?_⟩
        rw [show mkF x y = (0, 0, 20) by unfold mkF; rw [if_neg hc11, hp, hq, if_pos hc31]]; exact ⟨rfl, rfl⟩
      · -- c31.f
        refine w_skip (st_tn (w_seq (w_region (zm rfl (zd rfl (op_convI64 rfl (by rw [Try.underlying159]; rfl) Try.underlying3 (by omega)) ?_)))))
        refine zm rfl (zd rfl (op_convI64 rfl (by rw [Try.underlying159]; rfl) Try.underlying3 (by omega)) ?_)
        refine zd rfl (op_build tB29b rfl rfl) (wl_op [] rfl rfl rfl rfl (op_alloc (l := 9) tN29b) ?_)
        rintro _ _ ⟨b9, rfl, rfl⟩
        refine wl_op0 [9] rfl rfl rfl (op_store rfl rfl tZ29b (by rfl) (by rfl) (by exact Nat.le_of_ble_eq_true rfl)) ?_
        rintro _ _ ⟨rfl, rfl⟩
        refine wl_nil (st_tn (w_seq (w_seq (w_region (zm rfl (zd rfl (op_lss rfl rfl) (zm rfl (zd rfl (op_lss rfl rfl) (zd rfl (op_neB rfl rfl Try.underlying4) (wl_nil (st_tn (w_cond rfl (fun hc42 => ?_) (fun hc42 => ?_)))))))))))))
        · -- c42.t
          refine w_region (zd rfl (op_fieldAddr (off := 0) rfl tF29_0b) (zd rfl (op_load1 rfl tO3b (Ent.lab (l := 9) rfl (says_cel 0))) (zd rfl (op_neg rfl (by omega)) ?_)))
          refine zd rfl (op_fieldAddr (off := 0) rfl tF29_0b) (wl_op0 [9] rfl rfl rfl (op_store rfl rfl tZ3b (by rfl) (by rfl) (by exact Nat.le_of_ble_eq_true rfl)) ?_)
          rintro _ _ ⟨rfl, rfl⟩
          refine wl_nil (st_tn (w_seq (w_region (zd rfl (op_loadA rfl tA29b (Ent.lab (l := 9) rfl (says_cel 0)) (Nat.le_of_ble_eq_true rfl)) (wl_op0 [4] rfl rfl rfl (op_store rfl rfl tZ29b (by rfl) (by rfl) (by exact Nat.le_of_ble_eq_true rfl)) ?_)))))
          rintro _ _ ⟨rfl, rfl⟩
          refine za rfl (wl_nil (st_tn (w_ret (st_ret (vs := [_, _]) [] Try.results82 ⟨⟨_, rfl, Ent.mono (Ent.lab (l := 4) rfl (says_cel 0)) (fun _ h => run_load_agg tA29b h (Nat.le_of_ble_eq_true rfl))⟩, ⟨rfl, trivial⟩⟩ rfl ?_))))
          refine ⟨_, rfl, ?_⟩
          refine ⟨?_, rfl⟩
          unfold mkF; rw [if_neg hc11, hp, hq, if_neg hc31, hc42]; rfl
        · -- c42.f
          refine w_skip (st_tn (w_seq (w_region (zd rfl (op_loadA rfl tA29b (Ent.lab (l := 9) rfl (says_cel 0)) (Nat.le_of_ble_eq_true rfl)) (wl_op0 [4] rfl rfl rfl (op_store rfl rfl tZ29b (by rfl) (by rfl) (by exact Nat.le_of_ble_eq_true rfl)) ?_)))))
          rintro _ _ ⟨rfl, rfl⟩
          refine za rfl (wl_nil (st_tn (w_ret (st_ret (vs := [_, _]) [] Try.results82 ⟨⟨_, rfl, Ent.mono (Ent.lab (l := 4) rfl (says_cel 0)) (fun _ h => run_load_agg tA29b h (Nat.le_of_ble_eq_true rfl))⟩, ⟨rfl, trivial⟩⟩ rfl ?_))))
          refine ⟨_, rfl, ?_⟩
          refine ⟨?_, rfl⟩
          unfold mkF; rw [if_neg hc11, hp, hq, if_neg hc31, hc42]; rfl
end Go.Proofs.Ytecmigildpkigaa.Ser
namespace Go.Proofs.Ytecmigildpkigaa.Ser
open Go Go.SL Go.RowKit
set_option linter.unusedVariables false
set_option linter.unusedSimpArgs false
theorem tA29c : aggB Try.prog 29 2 = true := by kernel_rfl
theorem tF29_0c : fieldB Try.prog 29 0 0 = true := by kernel_rfl
theorem tF29_1c : fieldB Try.prog 29 1 1 = true := by kernel_rfl
theorem tG29c : Try.prog.eqGuardType Try.prog.depth 29 = false := by kernel_rfl
theorem tL30_1c : zerosB Try.prog 30 3 1 1 = some [Value.int .i64 0] := by kernel_rfl
theorem tMixc : Try.prog.follows .mixedOrders = true := by kernel_rfl
theorem tN29c : (Try.prog.info? 29).bind (·.zero) = some (Value.agg #[Value.int .i64 0, Value.int .i64 0]) := by kernel_rfl
theorem tO3c : oneB Try.prog 3 = true := by kernel_rfl
theorem tO5c : oneB Try.prog 5 = true := by kernel_rfl
theorem tP30c : appB Try.prog 30 3 1 8 = true := by kernel_rfl
theorem tS30c : sliceB Try.prog 30 3 1 = true := by kernel_rfl
theorem tS55c : sliceB Try.prog 55 5 1 = true := by kernel_rfl
theorem tZ29c : (Try.prog.info? 29).map (·.size) = some 2 := by kernel_rfl
abbrev frac (x y : Int) : Value := .agg #[.int .i64 x, .int .i64 y]
def chkF (x y : Int) : Int := if mkF x y = (x, y, 0) then 0 else 3
set_option maxHeartbeats 1000000 in
set_option maxRecDepth 100000 in
theorem fcheck_any {σ : World} {F : List Res} (x y : Int) (hx : -9223372036854775808 ≤ x ∧ x ≤ 9223372036854775807) (hy : -9223372036854775808 ≤ y ∧ y ≤ 9223372036854775807) :
    FnT Try.prog σ F 75 [frac x y] [] (fun u ρ => u = .int .i64 (chkF x y) ∧ ρ = []) := by
  refine fn_of 20 Try.func75 rfl Try.ntmps75 rfl ?_
  refine w_seq (w_region (wl_op [] rfl rfl rfl rfl (op_box (T := 29) (l := 1) rfl) ?_))
  rintro _ _ ⟨b1, rfl, rfl⟩
  refine za rfl (wl_nil (st_tn (w_seq (w_seq (w_region (zd rfl (op_fieldAddr (off := 0) rfl tF29_0c) (zd rfl (op_load1 rfl tO3c (Ent.lab (l := 1) rfl (says_cel 0))) (zd rfl (op_fieldAddr (off := 1) rfl tF29_1c) (zd rfl (op_load1 rfl tO3c (Ent.lab (l := 1) rfl (says_cel 1))) (zd rfl (op_fn Try.func82 rfl rfl rfl (mk_any _ _ (by omega) (by omega))) ?_))))))))))
  refine zm rfl (zd rfl (op_extract rfl rfl) (zd rfl (op_extract rfl rfl) (wl_op [] rfl rfl rfl rfl (op_alloc (l := 3) tN29c) ?_)))
  rintro _ _ ⟨b3, rfl, rfl⟩
  refine wl_op0 [3] rfl rfl rfl (op_store rfl rfl tZ29c (by rfl) (by rfl) (by exact Nat.le_of_ble_eq_true rfl)) ?_
  rintro _ _ ⟨rfl, rfl⟩
  refine za rfl (wl_nil (st_tn (w_seq (w_cutL [(19, .bool (decide (mkF x y ≠ (x, y, 0))))] [] [1, 3] rfl (fun K' hK => ?_) ?_))))
  · -- cut r2
    refine w_region (zm rfl (zd rfl (op_neq rfl rfl) (zm rfl (wl_gsplit (t := 15) rfl (fun hg15 => ?_) (fun hg15 => ?_)))))
    · -- 15 is True
      refine wl_unwanted rfl rfl rfl rfl rfl rfl rfl rfl (wl_unwanted rfl rfl rfl rfl rfl rfl rfl rfl (wl_unwanted rfl rfl rfl rfl rfl rfl rfl rfl (zd rfl (op_pick_t rfl rfl) (wl_nil (st_tn ?_)))))
      exact cut_done1 [1, 3] hK rfl (by generalize mkF x y = r at *; obtain ⟨p, q, e⟩ := r; first | (simp_all; done) | (simp_all; omega)) (by rfl) rfl rfl
    · -- 15 is False
      refine wl_wanted_det rfl rfl rfl rfl rfl rfl rfl (op_loadA rfl tA29c (Ent.lab (l := 3) rfl (says_cel 0)) (Nat.le_of_ble_eq_true rfl)) (wl_wanted_det rfl rfl rfl rfl rfl rfl rfl (op_loadA rfl tA29c (Ent.lab (l := 1) rfl (says_cel 0)) (Nat.le_of_ble_eq_true rfl)) (wl_wanted_det rfl rfl rfl rfl rfl rfl rfl (op_neA rfl rfl tG29c (eq24 _ _ _ _)) (zd rfl (op_pick_f rfl rfl) (wl_nil (st_tn ?_)))))
      exact cut_done1 [1, 3] hK rfl (by generalize mkF x y = r at *; obtain ⟨p, q, e⟩ := r; first | (simp_all; done) | (simp_all; omega)) (by rfl) rfl rfl
  · -- behind r2
    show W _ _ _ _ _ [(19, _)] [(1, _), (3, _)] _
    refine w_cond_d rfl (fun hc19 => ?_) (fun hc19 => ?_)
    · -- c19.t
      refine w_seq (w_region (za rfl (wl_nil (st_tn (w_ret (st_tr (st_ret (vs := [_]) [] Try.results75 ⟨rfl, trivial⟩ rfl ?_)))))))
      refine ⟨_, rfl, ?_⟩
      refine ⟨?_, rfl⟩; unfold chkF; rw [if_neg hc19]; rfl
    · -- c19.f
      refine w_skip (st_tn (w_seq (w_region (za rfl (wl_nil (st_tn (w_ret (st_ret (vs := [_]) [] Try.results75 ⟨rfl, trivial⟩ rfl ?_))))))))
      refine ⟨_, rfl, ?_⟩
      refine ⟨?_, rfl⟩; unfold chkF; rw [if_pos (Classical.byContradiction hc19)]; rfl
def goodB (x y : Int) : Prop := mkF x y = (x, y, 0) ∧ 0 < x ∧ x ≤ y
instance (x y : Int) : Decidable (goodB x y) := by unfold goodB; infer_instance
theorem goodB_bd {x y : Int} (h : goodB x y) : 0 < x ∧ x ≤ y ∧ y ≤ 1048576 := by
  have := mkF_ok h.1; have := h.2; omega
set_option maxHeartbeats 400000 in
set_option maxRecDepth 100000 in
theorem squant_any {σ : World} {F : List Res} (x y : Int) (hx : -9223372036854775808 ≤ x ∧ x ≤ 9223372036854775807) (hy : -9223372036854775808 ≤ y ∧ y ≤ 9223372036854775807) :
    FnT Try.prog σ F 61 [frac x y] [] (fun u ρ => u = .bool (decide (goodB x y)) ∧ ρ = []) := by
  refine fn_of 18 Try.func61 rfl Try.ntmps61 rfl ?_
  refine w_seq (w_region (wl_op [] rfl rfl rfl rfl (op_box (T := 29) (l := 1) rfl) ?_))
  rintro _ _ ⟨b1, rfl, rfl⟩
  refine za rfl (wl_nil (st_tn (w_seq (w_cutL [(2, .bool (decide (goodB x y)))] [] [1] rfl (fun K' hK => ?_) ?_))))
  · -- cut r1
    refine w_region (zd rfl (op_loadA rfl tA29c (Ent.lab (l := 1) rfl (says_cel 0)) (Nat.le_of_ble_eq_true rfl)) (zd rfl (op_fn Try.func75 rfl rfl rfl (fcheck_any _ _ (by omega) (by omega))) ?_))
    refine zd rfl (op_eql rfl rfl) (zm rfl (wl_gsplit (t := 6) rfl (fun hg6 => ?_) (fun hg6 => ?_)))
    · -- 6 is True
      refine wl_wanted_det rfl rfl rfl rfl rfl rfl rfl (op_fieldAddr (off := 0) rfl tF29_0c) (wl_wanted_det rfl rfl rfl rfl rfl rfl rfl (op_load1 rfl tO3c (Ent.lab (l := 1) rfl (says_cel 0))) (wl_wanted_det rfl rfl rfl rfl rfl rfl rfl (op_gtr rfl rfl) (zd rfl (op_pick_t rfl rfl) (zm rfl (wl_gsplit (t := 11) rfl (fun hg11 => ?_) (fun hg11 => ?_))))))
      · -- 11 is True
        refine wl_wanted_det rfl rfl rfl rfl rfl rfl rfl (op_fieldAddr (off := 0) rfl tF29_0c) (wl_wanted_det rfl rfl rfl rfl rfl rfl rfl (op_load1 rfl tO3c (Ent.lab (l := 1) rfl (says_cel 0))) (wl_wanted_det rfl rfl rfl rfl rfl rfl rfl (op_fieldAddr (off := 1) rfl tF29_1c) (wl_wanted_det rfl rfl rfl rfl rfl rfl rfl (op_load1 rfl tO3c (Ent.lab (l := 1) rfl (says_cel 1))) (wl_wanted_det rfl rfl rfl rfl rfl rfl rfl (op_leq rfl rfl) (zd rfl (op_pick_t rfl rfl) (za rfl (wl_nil (st_tn ?_))))))))
        exact cut_done1 [1] hK rfl (by unfold goodB; unfold chkF at *; by_cases h1 : mkF x y = (x, y, 0) <;> simp_all <;> omega) (by rfl) rfl rfl
      · -- 11 is False
        refine wl_unwanted rfl rfl rfl rfl rfl rfl rfl rfl (wl_unwanted rfl rfl rfl rfl rfl rfl rfl rfl (wl_unwanted rfl rfl rfl rfl rfl rfl rfl rfl (wl_unwanted rfl rfl rfl rfl rfl rfl rfl rfl (wl_unwanted rfl rfl rfl rfl rfl rfl rfl rfl (zd rfl (op_pick_f rfl rfl) (za rfl (wl_nil (st_tn ?_))))))))
        exact cut_done1 [1] hK rfl (by unfold goodB; unfold chkF at *; by_cases h1 : mkF x y = (x, y, 0) <;> simp_all <;> omega) (by rfl) rfl rfl
    · -- 6 is False
      refine wl_unwanted rfl rfl rfl rfl rfl rfl rfl rfl (wl_unwanted rfl rfl rfl rfl rfl rfl rfl rfl (wl_unwanted rfl rfl rfl rfl rfl rfl rfl rfl (zd rfl (op_pick_f rfl rfl) (zm rfl (wl_unwanted rfl rfl rfl rfl rfl rfl rfl rfl (wl_unwanted rfl rfl rfl rfl rfl rfl rfl rfl (wl_unwanted rfl rfl rfl rfl rfl rfl rfl rfl (wl_unwanted rfl rfl rfl rfl rfl rfl rfl rfl (wl_unwanted rfl rfl rfl rfl rfl rfl rfl rfl (zd rfl (op_pick_f rfl rfl) (za rfl (wl_nil (st_tn ?_)))))))))))))
      exact cut_done1 [1] hK rfl (by unfold goodB; unfold chkF at *; by_cases h1 : mkF x y = (x, y, 0) <;> simp_all <;> omega) (by rfl) rfl rfl
  · -- behind r1
    show W _ _ _ _ _ [(2, _)] [(1, _)] _
    refine w_ret (st_ret (vs := [_]) [] Try.results61 ⟨rfl, trivial⟩ rfl ?_)
    refine ⟨_, rfl, ?_⟩
    exact ⟨rfl, rfl⟩
set_option maxHeartbeats 400000 in
set_option maxRecDepth 100000 in
theorem points_any {σ : World} {F : List Res} {a : Option Addr} {c : Nat} {l : List Int} (lab : Nat) (h : Sl σ F encY 1 (.slice a l.length c) l) (hb : ∀ x ∈ l, 0 ≤ x ∧ x ≤ 255) :
    FnT Try.prog σ F 16 [.slice a l.length c] [] (NewZ (l.take 30) lab) := by
  refine fn_of 24 Try.func16 rfl Try.ntmps16 rfl ?_
  have hle := h.i64
  refine w_seq (w_region (za rfl (wl_nil (st_tn (w_seq (w_region (za rfl (wl_nil (st_tn (w_seq (w_seq (w_region (za rfl ?_)))))))))))))
  refine wl_nil (st_tn (w_block (w_emp 3 (slO_nil 3 1) ?_)))
  refine w_loopQ (X := Nat × List Int × Option Addr × Nat) (fun z => (z.1 ≤ l.length ∧ z.1 ≤ 30) ∧ z.2.1 = l.take z.1) (fun z => [(4, .int .i64 (z.1)), (3, .slice (z.2.2.1) (z.2.1).length (z.2.2.2))]) (fun z => [(3, slW 3 SL.encZ 1 (.slice (z.2.2.1) (z.2.1).length (z.2.2.2)) (z.2.1))]) (fun z => 30 - z.1) ((0, [], none, 0)) [(0, _)] [] [3] rfl (rfl) (.cons rfl (.cons rfl (.nil _))) (.cons rfl (.nil _)) (by
      try dsimp only
      exact ⟨⟨Nat.zero_le _, Nat.zero_le _⟩, rfl⟩) ?_
  rintro ⟨i, out, a_out, c_out⟩ ⟨⟨hi, hi2⟩, ho⟩
  refine w_norm2 (by dsimp only [List.cons_append, List.nil_append]) (by dsimp only [List.cons_append, List.nil_append]) ?_
  try dsimp only at hi hi2 ho ⊢
  refine w_seq (w_seq (w_cutL [(12, .bool (decide (i < l.length ∧ i < 30)))] [0, 3, 4] [3] rfl (fun K' hK => ?_) ?_))
  · -- cut r3
    refine w_region (zm rfl (zm rfl (zd rfl (op_lenT rfl tS55c (Sl.ent (by first | exact Sl.app (by assumption) _ | exact Sl.app (Sl.app (by assumption) _) _))) ?_)))
    refine zd rfl (op_lss rfl rfl) (zm rfl (wl_gsplit (t := 9) rfl (fun hg9 => ?_) (fun hg9 => ?_)))
    · -- 9 is True
      refine wl_wanted_det rfl rfl rfl rfl rfl rfl rfl (op_move rfl) (wl_wanted_det rfl rfl rfl rfl rfl rfl rfl (op_lss rfl rfl) (zd rfl (op_pick_t rfl rfl) (wl_nil (st_tn ?_))))
      exact cut_done1 [3] hK rfl (by first | (rw [decide_eq_decide]; omega) | (symm; rw [decide_eq_false_iff_not]; omega) | (symm; rw [decide_eq_true_iff]; omega) | (simp; done) | (simp; omega) | (simp [*]; done) | (simp [*]; omega)) (by rfl) rfl rfl
    · -- 9 is False
      refine wl_unwanted rfl rfl rfl rfl rfl rfl rfl rfl (wl_unwanted rfl rfl rfl rfl rfl rfl rfl rfl (zd rfl (op_pick_f rfl rfl) (wl_nil (st_tn ?_))))
      exact cut_done1 [3] hK rfl (by first | (rw [decide_eq_decide]; omega) | (symm; rw [decide_eq_false_iff_not]; omega) | (symm; rw [decide_eq_true_iff]; omega) | (simp; done) | (simp; omega) | (simp [*]; done) | (simp [*]; omega)) (by rfl) rfl rfl
  · -- behind r3
    show W _ _ _ _ _ [(12, _), (0, _), (3, _), (4, _)] [(3, _)] _
    refine w_cond_d rfl (fun hc12 => ?_) (fun hc12 => ?_)
    · -- c12.t
      obtain ⟨x, hx⟩ := getE (l := l) (i := i) hc12.1
      have hlt := ltE hx
      have hxb := hb x (List.mem_of_getElem? hx)
      have hol : out.length = i := by rw [ho, List.length_take]; omega
      refine w_skip (st_tn (w_seq (w_block (w_region (zm rfl (zm rfl (zm rfl (zd rfl (op_idx rfl rfl tS55c (Sl.ent (by first | exact Sl.app (by assumption) _ | exact Sl.app (Sl.app (by assumption) _) _)) (by omega)) ?_))))))))
      refine zd rfl (op_ldx rfl tO5c (by first | exact Sl.app (by assumption) _ | exact Sl.app (Sl.app (by assumption) _) _) (by assumption) (by rfl)) ?_
      refine zd rfl (op_convI64 rfl (by rw [Try.underlying5]; rfl) Try.underlying3 (by omega)) ?_
      refine wl_op [] rfl rfl rfl rfl (op_buildSlice (enc := SL.encZ) (l := [_]) (lab := 21) tL30_1c rfl rfl (fun _ => rfl) rfl) ?_
      rintro _ _ ⟨a21, c21, rfl, rfl⟩
      refine wl_op [3] rfl rfl rfl rfl (op_append (lab := 3) (lab' := 22) rfl rfl tP30c SL.enc1Z (Sl.lab 21 rfl (by simp [maxLen])) (by first | omega | (simp; done) | (simp; omega) | (simp [*]; omega)) (by first | omega | (simp; done) | (simp; omega) | (simp [*]; omega))) ?_
      rintro _ _ ⟨a22, c22, rfl, rfl⟩
      refine za rfl (wl_nil (st_bn (st_tn (w_region (zm rfl (zd rfl (op_add' rfl rfl (by omega)) ?_))))))
      refine za rfl (wl_nil ?_)
      refine st_roundQ (x := (i, out, a_out, c_out)) ((i + 1, _, _, _)) [22] rfl (rfl) (.cons rfl (.cons rfl (.nil _))) (.cons rfl (.nil _)) (by
          try dsimp only
          exact ⟨⟨by omega, by omega⟩, by rw [take_snoc hx, ho]⟩) (by
          try dsimp only
          omega)
    · -- c12.f
      refine w_exit (st_te ?_)
      refine st_te ?_
      refine st_be (st_tn (w_seq (w_region (zm rfl (za rfl (wl_nil (st_tn (w_ret (st_ret (vs := [_]) [3] Try.results16 ⟨rfl, trivial⟩ rfl ?_)))))))))
      refine ⟨[(lab, _)], rfl, ?_⟩
      have hfin : l.take 30 = out := by
        rw [ho]
        rcases Nat.lt_or_ge i 30 with h12 | h12
        · rw [List.take_of_length_le (by omega), List.take_of_length_le (by omega)]
        · rw [show i = 30 by omega]
      rw [hfin]; exact ⟨_, _, rfl, rfl⟩
set_option maxHeartbeats 400000 in
set_option maxRecDepth 100000 in
theorem ints_any {σ : World} {F : List Res} {a b : Option Addr} {c d : Nat} {l m : List Int} (h : Sl σ F encZ 1 (.slice a l.length c) l) (g : Sl σ F encZ 1 (.slice b m.length d) m) :
    FnT Try.prog σ F 53 [.slice a l.length c, .slice b m.length d] [] (fun u ρ => u = .bool (decide (l = m)) ∧ ρ = []) := by
  refine fn_of 26 Try.func53 rfl Try.ntmps53 rfl ?_
  have hle := h.i64
  have gle := g.i64
  refine w_seq (w_region (za rfl (wl_nil (st_tn (w_seq (w_seq (w_region (zm rfl (zd rfl (op_lenT rfl tS30c (Sl.ent (by first | exact Sl.app (by assumption) _ | exact Sl.app (Sl.app (by assumption) _) _))) ?_)))))))))
  refine zm rfl (zd rfl (op_lenT rfl tS30c (Sl.ent (by first | exact Sl.app (by assumption) _ | exact Sl.app (Sl.app (by assumption) _) _))) ?_)
  refine zd rfl (op_neq rfl rfl) (wl_nil (st_tn (w_cond_d rfl (fun hc10 => ?_) (fun hc10 => ?_))))
  · -- c10.t
    refine w_seq (w_region (za rfl (wl_nil (st_tn (w_ret (st_tr (st_ret (vs := [_]) [] Try.results53 ⟨rfl, trivial⟩ rfl ?_)))))))
    refine ⟨_, rfl, ?_⟩
    refine ⟨?_, rfl⟩; have : l ≠ m := fun e => by subst e; exact hc10 rfl
    simp [retv, this]
  · -- c10.f
    refine w_skip (st_tn (w_seq (w_seq (w_region (za rfl (wl_nil (st_tn (w_block ?_))))))))
    refine w_loopQ (X := Nat) (fun z => z ≤ l.length ∧ l.take z = m.take z) (fun z => [(5, .int .i64 (z))]) (fun _ => []) (fun z => l.length - z) (0) [(0, _), (1, _)] [] [] rfl (rfl) (.cons rfl (.nil _)) (.cons rfl (.cons rfl (.nil _))) (by
        try dsimp only
        exact ⟨Nat.zero_le _, by simp⟩) ?_
    rintro i ⟨hi, hn⟩
    refine w_norm2 (by dsimp only [List.cons_append, List.nil_append]) (by dsimp only [List.cons_append, List.nil_append]) ?_
    try dsimp only at hi hn ⊢
    refine w_seq (w_seq (w_region (zm rfl (zm rfl (zd rfl (op_lenT rfl tS30c (Sl.ent (by first | exact Sl.app (by assumption) _ | exact Sl.app (Sl.app (by assumption) _) _))) ?_)))))
    refine zd rfl (op_lss rfl rfl) (wl_nil (st_tn (w_cond_d rfl (fun hc14 => ?_) (fun hc14 => ?_))))
    · -- c14.t
      obtain ⟨y, hy⟩ := getE (l := l) (i := i) (by omega)
      obtain ⟨z, hz⟩ := getE (l := m) (i := i) (by omega)
      have hlt := ltE hy
      refine w_skip (st_tn (w_seq (w_block (w_seq ?_))))
      refine w_draw (D := [⟨17, [], [], [], _, false, [], []⟩, ⟨18, [], [], [], _, false, [], []⟩, ⟨19, [0, 1], [], [], _, false, [], []⟩, ⟨20, [2], [], [], _, false, [], []⟩, ⟨21, [], [], [], _, false, [], []⟩, ⟨22, [], [], [], _, false, [], []⟩, ⟨23, [4, 5], [], [], _, false, [], []⟩, ⟨24, [6], [], [], _, false, [], []⟩]) [] [0, 5, 1] [⟨17, [], [], false, [], []⟩, ⟨18, [], [], false, [], []⟩, ⟨19, [0, 1], [], false, [], []⟩, ⟨20, [2], [], false, [], []⟩, ⟨21, [], [], false, [], []⟩, ⟨22, [], [], false, [], []⟩, ⟨23, [4, 5], [], false, [], []⟩, ⟨24, [6], [], false, [], []⟩] tMixc (by rfl) (by kernel_rfl) (by rfl) (by rfl)
          ⟨.plain rfl (by intro X; exact op_move rfl),
          ⟨.plain rfl (by intro X; exact op_move rfl),
          ⟨.plain rfl (by intro X; rintro _ _ ⟨rfl, rfl⟩ _ _ ⟨rfl, rfl⟩; exact op_idx rfl rfl tS30c (Sl.ent (by first | exact Sl.app (by assumption) _ | exact Sl.app (Sl.app (by assumption) _) _)) (by omega)),
          ⟨.plain rfl (by intro X; rintro _ _ ⟨rfl, rfl⟩; exact op_ldx rfl tO3c (by first | exact Sl.app (by assumption) _ | exact Sl.app (Sl.app (by assumption) _) _) (by assumption) (by rfl)),
          ⟨.plain rfl (by intro X; exact op_move rfl),
          ⟨.plain rfl (by intro X; exact op_move rfl),
          ⟨.plain rfl (by intro X; rintro _ _ ⟨rfl, rfl⟩ _ _ ⟨rfl, rfl⟩; exact op_idx rfl rfl tS30c (Sl.ent (by first | exact Sl.app (by assumption) _ | exact Sl.app (Sl.app (by assumption) _) _)) (by omega)),
          ⟨.plain rfl (by intro X; rintro _ _ ⟨rfl, rfl⟩; exact op_ldx rfl tO3c (by first | exact Sl.app (by assumption) _ | exact Sl.app (Sl.app (by assumption) _) _) (by assumption) (by rfl)),
          trivial⟩⟩⟩⟩⟩⟩⟩⟩ ?_
      rintro _ _ ⟨rfl, rfl⟩ _ _ ⟨rfl, rfl⟩ _ _ ⟨rfl, rfl⟩ _ _ ⟨rfl, rfl⟩ _ _ ⟨rfl, rfl⟩ _ _ ⟨rfl, rfl⟩ _ _ ⟨rfl, rfl⟩ _ _ ⟨rfl, rfl⟩
      refine wl_norm (e' := [(0, _), (1, _), (5, _), (20, _), (24, _)]) (.cons rfl (.cons rfl (.cons rfl (.cons rfl (.cons rfl (.nil _)))))) (by dsimp only [cond_false, cond_true, List.nil_append, List.cons_append]) ?_
      refine zd rfl (op_neq rfl rfl) (wl_nil (st_tn (w_cond_d rfl (fun hc25 => ?_) (fun hc25 => ?_))))
      · -- c25.t
        refine w_seq (w_region (za rfl (wl_nil (st_tn (w_ret (st_br (st_tr (st_tr (st_br (st_tr (st_ret (vs := [_]) [] Try.results53 ⟨rfl, trivial⟩ rfl ?_)))))))))))
        refine ⟨_, rfl, ?_⟩
        refine ⟨?_, rfl⟩; have : l ≠ m := fun e => by subst e; rw [hy] at hz; simp at hz; exact hc25 hz
        simp [retv, this]
      · -- c25.f
        refine w_skip (st_bn (st_tn (w_region (zm rfl (zd rfl (op_add' rfl rfl (by omega)) ?_)))))
        refine za rfl (wl_nil ?_)
        refine st_roundQ (x := i) (i + 1) [] rfl (rfl) (.cons rfl (.nil _)) (.cons rfl (.cons rfl (.nil _))) (by
            try dsimp only
            exact ⟨by omega, by rw [take_snoc hy, take_snoc hz, hn, show y = z by omega]⟩) (by
            try dsimp only
            omega)
    · -- c14.f
      refine w_exit (st_te ?_)
      refine st_te ?_
      refine st_be (st_tn (w_seq (w_region (za rfl (wl_nil (st_tn (w_ret (st_ret (vs := [_]) [] Try.results53 ⟨rfl, trivial⟩ rfl ?_))))))))
      refine ⟨_, rfl, ?_⟩
      refine ⟨?_, rfl⟩; rw [take_all (by omega), take_all (by omega)] at hn; simp [retv, hn]
def rankOf (n : Nat) (x y : Int) : Int := (x * n + y - 1) / y
theorem rankOf_bd {n : Nat} {x y : Int} (hn : 0 < n) (h : goodB x y) : 1 ≤ rankOf n x y ∧ rankOf n x y ≤ n := by
  have hb := goodB_bd h
  unfold rankOf
  have h1 : x * 1 ≤ x * n := Int.mul_le_mul_of_nonneg_left (by omega) (by omega)
  have h2 : x * n ≤ y * n := Int.mul_le_mul_of_nonneg_right (by omega) (by omega)
  constructor
  · have := Int.ediv_le_ediv (a := y) (c := y) (b := x * n + y - 1) (by omega) (by omega)
    rwa [Int.ediv_self (by omega)] at this
  · have := Int.ediv_le_ediv (a := x * n + y - 1) (b := y * n + (y - 1)) (c := y) (by omega) (by omega)
    rw [Int.mul_add_ediv_left _ _ (by omega : y ≠ 0), Int.ediv_eq_zero_of_lt (a := y - 1) (b := y) (by omega) (by omega)] at this
    omega
def quantZ (l : List Int) (x y : Int) : Int := if l = [] then 0 else (srt l).getD (rankOf l.length x y - 1).toNat 0
set_option maxHeartbeats 1000000 in
set_option maxRecDepth 100000 in
theorem rank_any {σ : World} {F : List Res} {a : Option Addr} {c : Nat} {l : List Int} (x y : Int) (h : Sl σ F encZ 1 (.slice a l.length c) l) (hl : l.length ≤ 1099511627776) (hg : goodB x y) :
    FnT Try.prog σ F 65 [.slice a l.length c, frac x y] [] (fun u ρ => u = .int .i64 (quantZ l x y) ∧ ρ = []) := by
  refine fn_of 26 Try.func65 rfl Try.ntmps65 rfl ?_
  have hb := goodB_bd hg
  have hm1 : x * l.length ≤ 1048576 * 1099511627776 := Int.mul_le_mul (by omega) (by omega) (by omega) (by omega)
  have hm0 : 0 ≤ x * l.length := Int.mul_nonneg (by omega) (by omega)
  refine w_seq (w_region (wl_op [] rfl rfl rfl rfl (op_box (T := 29) (l := 3) rfl) ?_))
  rintro _ _ ⟨b3, rfl, rfl⟩
  refine za rfl (wl_nil (st_tn (w_seq (w_seq (w_region (zm rfl (zd rfl (op_lenT rfl tS30c (Sl.ent (by first | exact Sl.app (by assumption) _ | exact Sl.app (Sl.app (by assumption) _) _))) ?_)))))))
  refine zd rfl (op_eql rfl rfl) (wl_nil (st_tn (w_cond_d rfl (fun hc7 => ?_) (fun hc7 => ?_))))
  · -- c7.t
    refine w_seq (w_region (za rfl (wl_nil (st_tn (w_ret (st_tr (st_ret (vs := [_]) [] Try.results65 ⟨rfl, trivial⟩ rfl ?_)))))))
    refine ⟨_, rfl, ?_⟩
    refine ⟨?_, rfl⟩; unfold quantZ; rw [if_pos (List.eq_nil_of_length_eq_zero (by omega))]; rfl
  · -- c7.f
    have hr := rankOf_bd (n := l.length) (by omega) hg
    have hrk : (x * (l.length : Int) + y - 1) / y = rankOf l.length x y := rfl
    have hls := length_srt l
    obtain ⟨z, hz⟩ := getE (l := srt l) (i := (rankOf l.length x y - 1).toNat) (by omega)
    have hz0 := hz
    refine w_skip (st_tn (w_seq ?_))
    refine w_draw (D := [⟨8, [], [], [], _, false, [], []⟩, ⟨9, [0], [], [], _, false, [], []⟩, ⟨10, [1], [], [], _, false, [], []⟩, ⟨11, [], [], [], _, false, [], []⟩, ⟨12, [3], [], [], _, false, [], []⟩, ⟨13, [], [], [], _, false, [], []⟩, ⟨14, [5], [], [], _, false, [], []⟩, ⟨15, [4, 6], [], [], _, false, [], []⟩, ⟨16, [], [], [], _, false, [], []⟩, ⟨17, [8], [], [], _, false, [], []⟩, ⟨18, [7, 9], [], [], _, false, [], []⟩, ⟨19, [10], [], [], _, false, [], []⟩, ⟨20, [], [], [], _, false, [], []⟩, ⟨21, [12], [], [], _, false, [], []⟩, ⟨22, [11, 13], [], [], _, false, [], []⟩, ⟨23, [14], [], [], _, false, [], []⟩]) [] [0, 3] [⟨8, [], [], false, [], []⟩, ⟨9, [0], [], false, [], []⟩, ⟨10, [1], [], false, [], []⟩, ⟨11, [], [], false, [], []⟩, ⟨12, [3], [], false, [], []⟩, ⟨13, [], [], false, [], []⟩, ⟨14, [5], [], false, [], []⟩, ⟨15, [4, 6], [], false, [], []⟩, ⟨16, [], [], false, [], []⟩, ⟨17, [8], [], false, [], []⟩, ⟨18, [7, 9], [], false, [], []⟩, ⟨19, [10], [], false, [], []⟩, ⟨20, [], [], false, [], []⟩, ⟨21, [12], [], false, [], []⟩, ⟨22, [11, 13], [], false, [], []⟩, ⟨23, [14], [], false, [], []⟩] tMixc (by rfl) (by kernel_rfl) (by rfl) (by rfl)
        ⟨.plain rfl (by intro X; exact op_move rfl),
        ⟨.plain rfl (by intro X; rintro _ _ ⟨rfl, rfl⟩; exact op_fn Try.func77 rfl rfl rfl (values_any (v := .slice a l.length c) 9)),
        ⟨.plain rfl (by intro X; rintro _ _ ⟨b9, rfl, rfl⟩; exact op_fn Try.func76 rfl rfl rfl (sorted_any 10 (Ent.lab (l := 9) rfl (says_cel 0)) (by first | exact Sl.app h _ | exact Sl.app (Sl.app h _) _) hl)),
        ⟨.plain rfl (by intro X; exact op_fieldAddr (off := 0) rfl tF29_0c),
        ⟨.plain rfl (by intro X; rintro _ _ ⟨rfl, rfl⟩; exact op_load1 rfl tO3c (Ent.lab (l := 3) rfl (says_cel 0))),
        ⟨.plain rfl (by intro X; exact op_move rfl),
        ⟨.plain rfl (by intro X; rintro _ _ ⟨rfl, rfl⟩; exact op_lenT rfl tS30c (Sl.ent (by first | exact Sl.app (by assumption) _ | exact Sl.app (Sl.app (by assumption) _) _))),
        ⟨.plain rfl (by intro X; rintro _ _ ⟨rfl, rfl⟩ _ _ ⟨rfl, rfl⟩; exact op_mul' rfl rfl (by omega)),
        ⟨.plain rfl (by intro X; exact op_fieldAddr (off := 1) rfl tF29_1c),
        ⟨.plain rfl (by intro X; rintro _ _ ⟨rfl, rfl⟩; exact op_load1 rfl tO3c (Ent.lab (l := 3) rfl (says_cel 1))),
        ⟨.plain rfl (by intro X; rintro _ _ ⟨rfl, rfl⟩ _ _ ⟨rfl, rfl⟩; exact op_add' rfl rfl (by omega)),
        ⟨.plain rfl (by intro X; rintro _ _ ⟨rfl, rfl⟩; exact op_sub' rfl rfl (by omega)),
        ⟨.plain rfl (by intro X; exact op_fieldAddr (off := 1) rfl tF29_1c),
        ⟨.plain rfl (by intro X; rintro _ _ ⟨rfl, rfl⟩; exact op_load1 rfl tO3c (Ent.lab (l := 3) rfl (says_cel 1))),
        ⟨.plain rfl (by intro X; rintro _ _ ⟨rfl, rfl⟩ _ _ ⟨rfl, rfl⟩; exact op_quoN rfl rfl (by omega) (by omega) (by omega)),
        ⟨.plain rfl (by intro X; rintro _ _ ⟨rfl, rfl⟩; exact op_sub' rfl rfl (by omega)),
        trivial⟩⟩⟩⟩⟩⟩⟩⟩⟩⟩⟩⟩⟩⟩⟩⟩ ?_
    rintro _ _ ⟨rfl, rfl⟩ _ _ ⟨b9, rfl, rfl⟩ _ _ ⟨a10, c10, rfl, rfl⟩ _ _ ⟨rfl, rfl⟩ _ _ ⟨rfl, rfl⟩ _ _ ⟨rfl, rfl⟩ _ _ ⟨rfl, rfl⟩ _ _ ⟨rfl, rfl⟩ _ _ ⟨rfl, rfl⟩ _ _ ⟨rfl, rfl⟩ _ _ ⟨rfl, rfl⟩ _ _ ⟨rfl, rfl⟩ _ _ ⟨rfl, rfl⟩ _ _ ⟨rfl, rfl⟩ _ _ ⟨rfl, rfl⟩ _ _ ⟨rfl, rfl⟩
    refine wl_norm (e' := [(10, _), (23, _)]) (.cons rfl (.cons rfl (.nil _))) (by dsimp only [cond_false, cond_true, List.nil_append, List.cons_append]) ?_
    refine zd rfl (op_idxZ rfl rfl tS30c (Sl.ent (Sl.lab 10 rfl (by unfold maxLen; omega))) (by omega) (by omega)) ?_
    refine zd rfl (op_ldx rfl tO3c (Sl.lab 10 rfl (by unfold maxLen; omega)) (by assumption) (by rfl)) ?_
    refine za rfl (wl_nil (st_tn (w_ret (st_ret (vs := [_]) [] Try.results65 ⟨rfl, trivial⟩ rfl ?_))))
    refine ⟨_, rfl, ?_⟩
    refine ⟨?_, rfl⟩; unfold quantZ
    rw [if_neg (fun e => by subst e; simp at hc7), List.getD_eq_getElem?_getD]
    rw [hz0]; rfl
theorem sorted_take {s : List Int} (hs : s.Pairwise (· ≤ ·)) {j : Nat} {z : Int} (hz : s[j]? = some z) : (∀ x ∈ s.take (j + 1), x ≤ z) ∧ (∀ x ∈ s.drop j, z ≤ x) := by
  obtain ⟨hj, rfl⟩ := List.getElem?_eq_some_iff.1 hz
  constructor
  · intro x hx
    obtain ⟨q, hq, rfl⟩ := List.mem_take_iff_getElem.1 hx
    rcases Nat.lt_or_ge q j with h | h
    · exact List.pairwise_iff_getElem.1 hs q j (by omega) hj h
    · obtain rfl : q = j := by omega
      exact Int.le_refl _
  · intro x hx
    obtain ⟨q, hq, rfl⟩ := List.mem_drop_iff_getElem.1 hx
    rcases Nat.eq_zero_or_pos q with h | h
    · subst h; exact Int.le_refl _
    · exact List.pairwise_iff_getElem.1 hs j (j + q) hj _ (by omega)
theorem quant_unique {l : List Int} {r : Int} {z v : Int} (hr : 1 ≤ r) (hz : (srt l)[(r - 1).toNat]? = some z) (h1 : (l.countP (fun y => decide (y < v)) : Int) < r) (h2 : r ≤ (l.countP (fun y => decide (y ≤ v)) : Int)) : v = z := by
  rw [← (srt_perm l).countP_eq] at h1 h2
  obtain ⟨q1, q2⟩ := sorted_take (srt_le l) hz
  have hj := ltE hz
  rcases Int.lt_trichotomy v z with h | h | h
  · exfalso
    have e : (srt l).countP (fun y => decide (y ≤ v)) ≤ (r - 1).toNat := by
      rw [← List.take_append_drop (r - 1).toNat (srt l), List.countP_append]
      have e : ((srt l).drop (r - 1).toNat).countP (fun y => decide (y ≤ v)) = 0 := by
        rw [List.countP_eq_zero]; intro y hy; have := q2 y hy; simp; omega
      have := List.countP_le_length (l := (srt l).take (r - 1).toNat) (p := fun y => decide (y ≤ v))
      rw [List.length_take] at this
      omega
    omega
  · exact h
  · exfalso
    have e : (r - 1).toNat + 1 ≤ (srt l).countP (fun y => decide (y < v)) := by
      rw [← List.take_append_drop ((r - 1).toNat + 1) (srt l), List.countP_append]
      have e : ((srt l).take ((r - 1).toNat + 1)).countP (fun y => decide (y < v)) = ((srt l).take ((r - 1).toNat + 1)).length := by
        rw [List.countP_eq_length]; intro y hy; have := q1 y hy; simp; omega
      rw [e, List.length_take]; omega
    omega
end Go.Proofs.Ytecmigildpkigaa.Ser
namespace Go.Proofs.Ytecmigildpkigaa.Ser
open Go Go.SL Go.RowKit
set_option linter.unusedVariables false
set_option linter.unusedSimpArgs false
theorem tA29d : aggB Try.prog 29 2 = true := by kernel_rfl
theorem tA32d : aggB Try.prog 32 7 = true := by kernel_rfl
theorem tB32d : placesB Try.prog 32 = some ([(0, 1), (1, 1), (2, 1), (3, 2), (5, 1), (6, 1)], [Value.string .empty, Value.string .empty, Value.int .i64 0, Value.int .i64 0, Value.int .i64 0, Value.int .i64 0, Value.slice none 0 0]) := by kernel_rfl
theorem tF32_2d : fieldB Try.prog 32 2 2 = true := by kernel_rfl
theorem tF32_4d : fieldB Try.prog 32 4 5 = true := by kernel_rfl
theorem tF32_5d : fieldB Try.prog 32 5 6 = true := by kernel_rfl
theorem tL30_1d : zerosB Try.prog 30 3 1 1 = some [Value.int .i64 0] := by kernel_rfl
theorem tMixd : Try.prog.follows .mixedOrders = true := by kernel_rfl
theorem tN32d : (Try.prog.info? 32).bind (·.zero) = some (Value.agg #[Value.string .empty, Value.string .empty, Value.int .i64 0, Value.int .i64 0, Value.int .i64 0, Value.int .i64 0, Value.slice none 0 0]) := by kernel_rfl
theorem tO3d : oneB Try.prog 3 = true := by kernel_rfl
theorem tO30d : oneB Try.prog 30 = true := by kernel_rfl
theorem tP30d : appB Try.prog 30 3 1 8 = true := by kernel_rfl
theorem tS30d : sliceB Try.prog 30 3 1 = true := by kernel_rfl
theorem tZ3d : (Try.prog.info? 3).map (·.size) = some 1 := by kernel_rfl
theorem tZ30d : (Try.prog.info? 30).map (·.size) = some 1 := by kernel_rfl
theorem tZ32d : (Try.prog.info? 32).map (·.size) = some 7 := by kernel_rfl
structure SK where
  svc : ByteArray
  op : ByteArray
  met : Int
  qn : Int
  qd : Int
def K0 : SK := ⟨.empty, .empty, 0, 0, 0⟩
abbrev sr (k : SK) (fr : Int) (v : Value) : Value := .agg #[.string k.svc, .string k.op, .int .i64 k.met, .int .i64 k.qn, .int .i64 k.qd, .int .i64 fr, v]
structure R where
  k : SK
  fr : Int
  vals : List Int
  e : Int
def zeroR (e : Int) : R := ⟨K0, 0, [], e⟩
def SerV (r : R) (lab : Nat) (u : Value) (ρ : RL) : Prop := ∃ a c, u = .tuple #[sr r.k r.fr (.slice a r.vals.length c), .int .i64 r.e] ∧ ρ = [(lab, slW 3 encZ 1 (.slice a r.vals.length c) r.vals)]
set_option maxHeartbeats 400000 in
set_option maxRecDepth 100000 in
theorem like_any {σ : World} {F : List Res} (k : SK) (fr fr' : Int) (a a' : Option Addr) (m c m' c' : Nat) :
    FnT Try.prog σ F 66 [sr k fr (.slice a m c), .int .i64 fr', .slice a' m' c'] [] (fun u ρ => u = sr k fr' (.slice a' m' c') ∧ ρ = []) := by
  refine fn_of 12 Try.func66 rfl Try.ntmps66 rfl ?_
  refine w_seq (w_region (wl_op [] rfl rfl rfl rfl (op_box (T := 32) (l := 3) rfl) ?_))
  rintro _ _ ⟨b3, rfl, rfl⟩
  refine wl_op [] rfl rfl rfl rfl (op_alloc (l := 6) tN32d) ?_
  rintro _ _ ⟨b6, rfl, rfl⟩
  refine wl_nil (st_tn (w_seq (w_region (zm rfl (zm rfl (zd rfl (op_fieldAddr (off := 5) rfl tF32_4d) (wl_op0 [3] rfl rfl rfl (op_store rfl rfl tZ3d (by rfl) (by rfl) (by exact Nat.le_of_ble_eq_true rfl)) ?_)))))))
  rintro _ _ ⟨rfl, rfl⟩
  refine zd rfl (op_fieldAddr (off := 6) rfl tF32_5d) (wl_op0 [3] rfl rfl rfl (op_store rfl rfl tZ30d (by rfl) (by rfl) (by exact Nat.le_of_ble_eq_true rfl)) ?_)
  rintro _ _ ⟨rfl, rfl⟩
  refine wl_nil (st_tn (w_seq (w_region (zd rfl (op_loadA rfl tA32d (Ent.lab (l := 3) rfl (says_cel 0)) (Nat.le_of_ble_eq_true rfl)) (wl_op0 [6] rfl rfl rfl (op_store rfl rfl tZ32d (by rfl) (by rfl) (by exact Nat.le_of_ble_eq_true rfl)) ?_)))))
  rintro _ _ ⟨rfl, rfl⟩
  refine wl_nil (st_tn (w_ret (st_ret (vs := [_]) [] Try.results66 ⟨⟨_, rfl, Ent.mono (Ent.lab (l := 6) rfl (says_cel 0)) (fun _ h => run_load_agg tA32d h (Nat.le_of_ble_eq_true rfl))⟩, trivial⟩ rfl ?_)))
  refine ⟨_, rfl, ?_⟩
  exact ⟨rfl, rfl⟩
set_option maxHeartbeats 400000 in
set_option maxRecDepth 100000 in
theorem big_any {σ : World} {F : List Res} (x : Int) : FnT Try.prog σ F 67 [.int .i64 x] [] (fun u ρ => u = .bool (decide (x > 1099511627776)) ∧ ρ = []) := by
  refine fn_of 5 Try.func67 rfl Try.ntmps67 rfl ?_
  refine w_seq (w_region (za rfl (wl_nil (st_tn (w_seq (w_region (zm rfl (zd rfl (op_gtr rfl rfl) (za rfl (wl_nil (st_tn (w_ret (st_ret (vs := [_]) [] Try.results67 ⟨rfl, trivial⟩ rfl ?_)))))))))))))
  refine ⟨_, rfl, ?_⟩
  exact ⟨rfl, rfl⟩
def cstep (lat : Bool) (out : List Int) (k : Nat) (v : Int) : List Int := if k = out.length then out ++ [v] else out.set k (if lat then max (out.getD k 0) v else out.getD k 0 + v)
def coarseN (lat : Bool) (fr sz : Int) (l : List Int) : Nat → List Int
  | 0 => []
  | i + 1 => cstep lat (coarseN lat fr sz l i) ((fr + i) / sz - fr / sz).toNat (l.getD i 0)
theorem div_step {a s : Int} (hs : 0 < s) : (a + 1) / s = a / s ∨ (a + 1) / s = a / s + 1 := by
  have h1 := Int.ediv_mul_add_emod a s
  have h2 := Int.ediv_mul_add_emod (a + 1) s
  have h3 := Int.emod_nonneg a (by omega : s ≠ 0)
  have h4 := Int.emod_lt_of_pos a hs
  have h5 := Int.emod_nonneg (a + 1) (by omega : s ≠ 0)
  have h6 := Int.emod_lt_of_pos (a + 1) hs
  have h7 : (a + 1) / s * s < (a / s + 2) * s := by rw [Int.add_mul]; omega
  have h8 := Int.lt_of_mul_lt_mul_right h7 (by omega)
  have h9 : (a / s - 1) * s < (a + 1) / s * s := by rw [Int.sub_mul]; omega
  have h10 := Int.lt_of_mul_lt_mul_right h9 (by omega)
  omega
theorem coarse_len {lat : Bool} {fr sz : Int} (hs : 0 < sz) {l : List Int} : ∀ i : Nat, ((coarseN lat fr sz l (i + 1)).length : Int) = (fr + i) / sz - fr / sz + 1
  | 0 => by
    unfold coarseN coarseN cstep
    simp
  | i + 1 => by
    have ih := coarse_len (lat := lat) (fr := fr) hs (l := l) i
    have hd := div_step (a := fr + i) hs
    have hle : fr / sz ≤ (fr + i) / sz := Int.ediv_le_ediv hs (by omega)
    rw [show fr + ((i + 1 : Nat) : Int) = fr + i + 1 by omega]
    unfold coarseN cstep
    rw [show fr + ((i + 1 : Nat) : Int) = fr + i + 1 by omega]
    split
    · rename_i h; rw [List.length_append, List.length_singleton]; omega
    · rename_i h; rw [List.length_set]; omega
theorem coarse_cell {lat : Bool} {fr sz : Int} (hs : 0 < sz) {l : List Int} (i : Nat) : 0 ≤ (fr + i) / sz - fr / sz ∧ ((fr + i) / sz - fr / sz = (coarseN lat fr sz l i).length ∨ (fr + i) / sz - fr / sz < (coarseN lat fr sz l i).length) := by
  have hle : fr / sz ≤ (fr + i) / sz := Int.ediv_le_ediv hs (by omega)
  refine ⟨by omega, ?_⟩
  cases i with
  | zero => left; unfold coarseN; simp
  | succ i =>
    have h1 := coarse_len (lat := lat) (fr := fr) hs (l := l) i
    have hd := div_step (a := fr + i) hs
    rw [show fr + ((i + 1 : Nat) : Int) = fr + i + 1 by omega]
    omega
theorem coarse_bd {lat : Bool} {fr sz : Int} {l : List Int} {B : Int} (hB : 0 ≤ B) (hl : ∀ x ∈ l, 0 ≤ x ∧ x ≤ B) : ∀ (i : Nat), ∀ x ∈ coarseN lat fr sz l i, 0 ≤ x ∧ x ≤ i * B
  | 0, x, h => by simp [coarseN] at h
  | i + 1, x, h => by
    have ih := coarse_bd (lat := lat) (fr := fr) (sz := sz) hB hl i
    have hmul : ((i + 1 : Nat) : Int) * B = i * B + B := by rw [Int.natCast_add, Int.add_mul]; simp
    have hi : 0 ≤ (i : Int) * B := Int.mul_nonneg (by omega) hB
    have hv : 0 ≤ l.getD i 0 ∧ l.getD i 0 ≤ B := by
      rw [List.getD_eq_getElem?_getD]
      cases hx : l[i]? with
      | none => simp; omega
      | some y => exact hl y (List.mem_of_getElem? hx)
    unfold coarseN cstep at h
    rw [hmul]
    split at h
    · rcases List.mem_append.1 h with h | h
      · have := ih x h; omega
      · rw [List.mem_singleton] at h; subst h; omega
    · have hg : 0 ≤ (coarseN lat fr sz l i).getD ((fr + i) / sz - fr / sz).toNat 0 ∧ (coarseN lat fr sz l i).getD ((fr + i) / sz - fr / sz).toNat 0 ≤ i * B := by
        rw [List.getD_eq_getElem?_getD]
        cases hx : (coarseN lat fr sz l i)[((fr + i) / sz - fr / sz).toNat]? with
        | none => simp; omega
        | some y => exact ih y (List.mem_of_getElem? hx)
      rcases List.mem_or_eq_of_mem_set h with h | h
      · have := ih x h; omega
      · subst h; split <;> omega
theorem coarse_le {lat : Bool} {fr sz : Int} {l : List Int} : ∀ i : Nat, (coarseN lat fr sz l i).length ≤ i
  | 0 => by simp [coarseN]
  | i + 1 => by
    have := coarse_le (lat := lat) (fr := fr) (sz := sz) (l := l) i
    unfold coarseN cstep
    split <;> simp <;> omega
def coarsenR (k : SK) (fr : Int) (l : List Int) (sz : Int) : R :=
  if sz < 1 ∨ sz > 1048576 then zeroR 2 else
  if (coarseN (decide (k.met = 3)) fr sz l l.length).any (fun x => decide (x > 1099511627776)) then zeroR 20 else ⟨k, fr / sz, coarseN (decide (k.met = 3)) fr sz l l.length, 0⟩
set_option maxHeartbeats 4000000 in
set_option maxRecDepth 100000 in
theorem coarsen_any {σ : World} {F : List Res} {a : Option Addr} {c : Nat} {l : List Int} (lab : Nat) (k : SK) (fr sz : Int) (h : Sl σ F encZ 1 (.slice a l.length c) l) (hl : l.length ≤ 1048576) (hf : 0 ≤ fr ∧ fr ≤ 1048576) (hv : ∀ x ∈ l, 0 ≤ x ∧ x ≤ 1099511627776) :
    FnT Try.prog σ F 51 [sr k fr (.slice a l.length c), .int .i64 sz] [] (SerV (coarsenR k fr l sz) lab) := by
  refine fn_of 81 Try.func51 rfl Try.ntmps51 rfl ?_
  have hle := h.i64
  refine w_seq (w_region (wl_op [] rfl rfl rfl rfl (op_box (T := 32) (l := 2) rfl) ?_))
  rintro _ _ ⟨b2, rfl, rfl⟩
  refine wl_op [] rfl rfl rfl rfl (op_alloc (l := 4) tN32d) ?_
  rintro _ _ ⟨b4, rfl, rfl⟩
  refine za rfl (wl_nil (st_tn (w_seq (w_seq (w_cutL [(15, .bool (decide (sz < 1 ∨ sz > 1048576)))] [1, 2, 4] [2, 4] rfl (fun K' hK => ?_) ?_)))))
  · -- cut r1
    refine w_region (zm rfl (zd rfl (op_lss rfl rfl) (zm rfl (wl_gsplit (t := 12) rfl (fun hg12 => ?_) (fun hg12 => ?_)))))
    · -- 12 is True
      refine wl_unwanted rfl rfl rfl rfl rfl rfl rfl rfl (wl_unwanted rfl rfl rfl rfl rfl rfl rfl rfl (zd rfl (op_pick_t rfl rfl) (wl_nil (st_tn ?_))))
      exact cut_done1 [2, 4] hK rfl (by first | (rw [decide_eq_decide]; omega) | (symm; rw [decide_eq_false_iff_not]; omega) | (symm; rw [decide_eq_true_iff]; omega) | (simp; done) | (simp; omega) | (simp [*]; done) | (simp [*]; omega)) (by rfl) rfl rfl
    · -- 12 is False
      refine wl_wanted_det rfl rfl rfl rfl rfl rfl rfl (op_move rfl) (wl_wanted_det rfl rfl rfl rfl rfl rfl rfl (op_gtr rfl rfl) (zd rfl (op_pick_f rfl rfl) (wl_nil (st_tn ?_))))
      exact cut_done1 [2, 4] hK rfl (by first | (rw [decide_eq_decide]; omega) | (symm; rw [decide_eq_false_iff_not]; omega) | (symm; rw [decide_eq_true_iff]; omega) | (simp; done) | (simp; omega) | (simp [*]; done) | (simp [*]; omega)) (by rfl) rfl rfl
  · -- behind r1
    show W _ _ _ _ _ [(15, _), (1, _), (2, _), (4, _)] [(2, _), (4, _)] _
    refine w_cond_d rfl (fun hc15 => ?_) (fun hc15 => ?_)
    · -- c15.t
      refine w_seq (w_emp 77 (slO_nil 3 1) ?_)
      refine w_region (zd rfl (op_build tB32d rfl rfl) (wl_op0 [4] rfl rfl rfl (op_store rfl rfl tZ32d (by rfl) (by rfl) (by exact Nat.le_of_ble_eq_true rfl)) ?_))
      rintro _ _ ⟨rfl, rfl⟩
      refine za rfl (wl_nil (st_tn (w_ret (st_tr (st_ret (vs := [_, _]) [77] Try.results51 ⟨⟨_, rfl, Ent.mono (Ent.lab (l := 4) rfl (says_cel 0)) (fun _ h => run_load_agg tA32d h (Nat.le_of_ble_eq_true rfl))⟩, ⟨rfl, trivial⟩⟩ rfl ?_)))))
      refine ⟨[(lab, _)], rfl, ?_⟩
      unfold coarsenR; rw [if_pos hc15]; exact ⟨none, 0, rfl, rfl⟩
    · -- c15.f
      refine w_skip (st_tn (w_seq ?_))
      have hdv : fr / sz ≤ 1048576 := by have := Int.ediv_le_self sz hf.1; omega
      have hdv0 : 0 ≤ fr / sz := Int.ediv_nonneg hf.1 (by omega)
      refine w_draw (D := [⟨17, [], [], [], _, false, [], []⟩, ⟨18, [], [], [], _, false, [], []⟩, ⟨19, [1], [], [], _, false, [], []⟩, ⟨20, [], [], [], _, false, [], []⟩, ⟨21, [2, 3], [], [], _, false, [], []⟩, ⟨22, [0, 4], [], [], _, false, [], []⟩, ⟨6, [], [], [], _, false, [], []⟩]) [] [2, 1] [⟨17, [], [], false, [], []⟩, ⟨18, [], [], false, [], []⟩, ⟨19, [1], [], false, [], []⟩, ⟨20, [], [], false, [], []⟩, ⟨21, [2, 3], [], false, [], []⟩, ⟨22, [0, 4], [], false, [], []⟩, ⟨6, [], [], false, [], []⟩] tMixd (by rfl) (by kernel_rfl) (by rfl) (by rfl)
          ⟨.plain rfl (by intro X; exact op_loadA rfl tA32d (Ent.lab (l := 2) rfl (says_cel 0)) (Nat.le_of_ble_eq_true rfl)),
          ⟨.plain rfl (by intro X; exact op_fieldAddr (off := 5) rfl tF32_4d),
          ⟨.plain rfl (by intro X; rintro _ _ ⟨rfl, rfl⟩; exact op_load1 rfl tO3d (Ent.lab (l := 2) rfl (says_cel 5))),
          ⟨.plain rfl (by intro X; exact op_move rfl),
          ⟨.plain rfl (by intro X; rintro _ _ ⟨rfl, rfl⟩ _ _ ⟨rfl, rfl⟩; exact op_quoN rfl rfl (by omega) (by omega) (by omega)),
          ⟨.plain rfl (by intro X; rintro _ _ ⟨rfl, rfl⟩ _ _ ⟨rfl, rfl⟩; exact op_fn Try.func66 rfl rfl rfl (like_any _ _ _ _ _ _ _ _ _)),
          ⟨.plain rfl (by intro X; exact op_alloc (l := 6) tN32d),
          trivial⟩⟩⟩⟩⟩⟩⟩ ?_
      rintro _ _ ⟨rfl, rfl⟩ _ _ ⟨rfl, rfl⟩ _ _ ⟨rfl, rfl⟩ _ _ ⟨rfl, rfl⟩ _ _ ⟨rfl, rfl⟩ _ _ ⟨rfl, rfl⟩ _ _ ⟨b6, rfl, rfl⟩
      refine wl_norm (e' := [(1, _), (2, _), (4, _), (6, _), (22, _)]) (.cons rfl (.cons rfl (.cons rfl (.cons rfl (.cons rfl (.nil _)))))) (by dsimp only [cond_false, cond_true, List.nil_append, List.cons_append]) ?_
      refine wl_op0 [6] rfl rfl rfl (op_store rfl rfl tZ32d (by rfl) (by rfl) (by exact Nat.le_of_ble_eq_true rfl)) ?_
      rintro _ _ ⟨rfl, rfl⟩
      refine wl_nil (st_tn (w_seq (w_seq (w_region (zd rfl (op_fieldAddr (off := 6) rfl tF32_5d) (zd rfl (op_load1 rfl tO30d (Ent.lab (l := 2) rfl (says_cel 6))) (zd rfl (op_lenT rfl tS30d (Sl.ent (by first | exact Sl.app (by assumption) _ | exact Sl.app (Sl.app (by assumption) _) _))) ?_)))))))
      refine zm rfl (wl_nil (st_tn (w_block (w_emp 96 (slO_nil 3 1) ?_))))
      refine w_loopQ (X := Nat × List Int × Option Addr × Nat) (fun z => z.1 ≤ l.length ∧ z.2.1 = coarseN (decide (k.met = 3)) fr sz l z.1) (fun z => [(26, .int .i64 (z.1))]) (fun z => [(96, slW 3 SL.encZ 1 (.slice (z.2.2.1) (z.2.1).length (z.2.2.2)) (z.2.1)), (6, cel b6 [.string k.svc, .string k.op, .int .i64 k.met, .int .i64 k.qn, .int .i64 k.qd, .int .i64 (fr / sz), .slice (z.2.2.1) (z.2.1).length (z.2.2.2)] 32)]) (fun z => l.length - z.1) ((0, [], none, 0)) [(1, _), (2, _), (4, _), (6, _), (24, _), (25, _)] [(2, _), (4, _)] [96, 6, 2, 4] rfl (rfl) (.cons rfl (.nil _)) (.cons rfl (.cons rfl (.cons rfl (.cons rfl (.cons rfl (.cons rfl (.nil _))))))) (by
          try dsimp only
          exact ⟨Nat.zero_le _, rfl⟩) ?_
      rintro ⟨i, out, a_out, c_out⟩ ⟨hi, ho⟩
      refine w_norm2 (by dsimp only [List.cons_append, List.nil_append]) (by dsimp only [List.cons_append, List.nil_append]) ?_
      try dsimp only at hi ho ⊢
      refine w_seq (w_region (zd rfl (op_lss rfl rfl) (wl_nil (st_tn (w_seq (w_cond_d rfl (fun hc27 => ?_) (fun hc27 => ?_)))))))
      · -- c27.t
        obtain ⟨x, hx⟩ := getE (l := l) (i := i) (by omega)
        have hlt := ltE hx
        have hxb := hv x (List.mem_of_getElem? hx)
        have hgd : l.getD i 0 = x := by rw [List.getD_eq_getElem?_getD, hx]; rfl
        have hcc := coarse_cell (lat := decide (k.met = 3)) (fr := fr) (sz := sz) (by omega) (l := l) i
        rw [← ho] at hcc
        have hdi : (fr + i) / sz ≤ fr + i := Int.ediv_le_self sz (by omega)
        have hol := coarse_bd (lat := decide (k.met = 3)) (fr := fr) (sz := sz) (B := 1099511627776) (by omega) hv i
        rw [← ho] at hol
        have hole := coarse_le (lat := decide (k.met = 3)) (fr := fr) (sz := sz) (l := l) i
        rw [← ho] at hole
        refine w_skip (st_tn (w_seq (w_block (w_seq (w_region (zm rfl (zd rfl (op_idx rfl rfl tS30d (Sl.ent (by first | exact Sl.app (by assumption) _ | exact Sl.app (Sl.app (by assumption) _) _)) (by omega)) ?_)))))))
        refine zd rfl (op_ldx rfl tO3d (by first | exact Sl.app (by assumption) _ | exact Sl.app (Sl.app (by assumption) _) _) (by assumption) (by rfl)) ?_
        refine za rfl (za rfl (wl_nil (st_tn (w_seq ?_))))
        refine w_draw (D := [⟨31, [], [], [], _, false, [], []⟩, ⟨32, [0], [], [], _, false, [], []⟩, ⟨33, [], [], [], _, false, [], []⟩, ⟨34, [1, 2], [], [], _, false, [], []⟩, ⟨35, [], [], [], _, false, [], []⟩, ⟨36, [3, 4], [], [], _, false, [], []⟩, ⟨37, [], [], [], _, false, [], []⟩, ⟨38, [6], [], [], _, false, [], []⟩]) [] [2, 7, 1, 6] [⟨31, [], [], false, [], []⟩, ⟨32, [0], [], false, [], []⟩, ⟨33, [], [], false, [], []⟩, ⟨34, [1, 2], [], false, [], []⟩, ⟨35, [], [], false, [], []⟩, ⟨36, [3, 4], [], false, [], []⟩, ⟨37, [], [], false, [], []⟩, ⟨38, [6], [], false, [], []⟩] tMixd (by rfl) (by kernel_rfl) (by rfl) (by rfl)
            ⟨.plain rfl (by intro X; exact op_fieldAddr (off := 5) rfl tF32_4d),
            ⟨.plain rfl (by intro X; rintro _ _ ⟨rfl, rfl⟩; exact op_load1 rfl tO3d (Ent.lab (l := 2) rfl (says_cel 5))),
            ⟨.plain rfl (by intro X; exact op_move rfl),
            ⟨.plain rfl (by intro X; rintro _ _ ⟨rfl, rfl⟩ _ _ ⟨rfl, rfl⟩; exact op_add' rfl rfl (by omega)),
            ⟨.plain rfl (by intro X; exact op_move rfl),
            ⟨.plain rfl (by intro X; rintro _ _ ⟨rfl, rfl⟩ _ _ ⟨rfl, rfl⟩; exact op_quoN rfl rfl (by omega) (by omega) (by omega)),
            ⟨.plain rfl (by intro X; exact op_fieldAddr (off := 5) rfl tF32_4d),
            ⟨.plain rfl (by intro X; rintro _ _ ⟨rfl, rfl⟩; exact op_load1 rfl tO3d (Ent.lab (l := 6) rfl (says_cel 5))),
            trivial⟩⟩⟩⟩⟩⟩⟩⟩ ?_
        rintro _ _ ⟨rfl, rfl⟩ _ _ ⟨rfl, rfl⟩ _ _ ⟨rfl, rfl⟩ _ _ ⟨rfl, rfl⟩ _ _ ⟨rfl, rfl⟩ _ _ ⟨rfl, rfl⟩ _ _ ⟨rfl, rfl⟩ _ _ ⟨rfl, rfl⟩
        refine wl_norm (e' := [(1, _), (2, _), (4, _), (6, _), (8, _), (24, _), (25, _), (26, _), (36, _), (38, _)]) (.cons rfl (.cons rfl (.cons rfl (.cons rfl (.cons rfl (.cons rfl (.cons rfl (.cons rfl (.cons rfl (.cons rfl (.nil _))))))))))) (by dsimp only [cond_false, cond_true, List.nil_append, List.cons_append]) ?_
        refine zd rfl (op_sub' rfl rfl (by omega)) ?_
        refine za rfl (wl_nil (st_tn (w_block (w_seq (w_region (zm rfl (zd rfl (op_fieldAddr (off := 6) rfl tF32_5d) (zd rfl (op_load1 rfl tO30d (Ent.lab (l := 6) rfl (says_cel 6))) (zd rfl (op_lenT rfl tS30d (Sl.ent (Sl.lab 96 rfl (by unfold maxLen; omega)))) ?_)))))))))
        refine zd rfl (op_eql rfl rfl) (za rfl (wl_nil (st_tn (w_cond_d rfl (fun hc48 => ?_) (fun hc48 => ?_)))))
        · -- c48.t
          have hstep : out ++ [x] = cstep (decide (k.met = 3)) out ((fr + i) / sz - fr / sz).toNat x := by unfold cstep; rw [if_pos (by omega)]
          refine w_region (zd rfl (op_fieldAddr (off := 6) rfl tF32_5d) (zd rfl (op_load1 rfl tO30d (Ent.lab (l := 6) rfl (says_cel 6))) (zm rfl (wl_op [] rfl rfl rfl rfl (op_buildSlice (enc := SL.encZ) (l := [_]) (lab := 57) tL30_1d rfl rfl (fun _ => rfl) rfl) ?_))))
          rintro _ _ ⟨a57, c57, rfl, rfl⟩
          refine wl_op [96] rfl rfl rfl rfl (op_append (lab := 96) (lab' := 58) rfl rfl tP30d SL.enc1Z (Sl.lab 57 rfl (by simp [maxLen])) (by first | omega | (simp; done) | (simp; omega) | (simp [*]; omega)) (by first | omega | (simp; done) | (simp; omega) | (simp [*]; omega))) ?_
          rintro _ _ ⟨a58, c58, rfl, rfl⟩
          refine zd rfl (op_fieldAddr (off := 6) rfl tF32_5d) (wl_op0 [6] rfl rfl rfl (op_store rfl rfl tZ30d (by rfl) (by rfl) (by exact Nat.le_of_ble_eq_true rfl)) ?_)
          rintro _ _ ⟨rfl, rfl⟩
          refine wl_nil (st_bn (st_bn (st_tn (w_region (zd rfl (op_add' rfl rfl (by omega)) ?_)))))
          refine zm rfl (wl_nil ?_)
          refine st_roundQ (x := (i, out, a_out, c_out)) ((i + 1, _, _, _)) [58, 6, 2, 4] rfl (rfl) (.cons rfl (.nil _)) (.cons rfl (.cons rfl (.cons rfl (.cons rfl (.cons rfl (.cons rfl (.nil _))))))) (by
              try dsimp only
              refine ⟨by omega, ?_⟩
              unfold coarseN
              rw [← ho, hgd]
              exact hstep) (by
              try dsimp only
              omega)
        · -- c48.f
          obtain ⟨y, hy⟩ := getE (l := out) (i := ((fr + i) / sz - fr / sz).toNat) (by omega)
          have hyb := hol y (List.mem_of_getElem? hy)
          have hyd : out.getD ((fr + i) / sz - fr / sz).toNat 0 = y := by rw [List.getD_eq_getElem?_getD, hy]; rfl
          refine w_seq (w_region (zd rfl (op_fieldAddr (off := 2) rfl tF32_2d) (zd rfl (op_load1 rfl tO3d (Ent.lab (l := 2) rfl (says_cel 2))) (zd rfl (op_eql rfl rfl) (za rfl (wl_nil (st_tn (w_cond_d rfl (fun hc60 => ?_) (fun hc60 => ?_)))))))))
          · -- c60.t
            have hstep : out.set ((fr + i) / sz - fr / sz).toNat (max y x) = cstep (decide (k.met = 3)) out ((fr + i) / sz - fr / sz).toNat x := by unfold cstep; rw [if_neg (by omega), hyd, decide_eq_true hc60, if_pos rfl]
            refine w_draw (D := [⟨64, [], [], [], _, false, [], []⟩, ⟨65, [0], [], [], _, false, [], []⟩, ⟨66, [], [], [], _, false, [], []⟩, ⟨67, [], [], [], _, false, [], []⟩, ⟨68, [3], [], [], _, false, [], []⟩, ⟨69, [], [], [], _, false, [], []⟩, ⟨70, [4, 5], [], [], _, false, [], []⟩, ⟨71, [6], [], [], _, false, [], []⟩, ⟨72, [], [], [], _, false, [], []⟩, ⟨73, [7, 8], [], [], _, false, [], []⟩]) [] [6, 9, 8] [⟨64, [], [], false, [], []⟩, ⟨65, [0], [], false, [], []⟩, ⟨66, [], [], false, [], []⟩, ⟨67, [], [], false, [], []⟩, ⟨68, [3], [], false, [], []⟩, ⟨69, [], [], false, [], []⟩, ⟨70, [4, 5], [], false, [], []⟩, ⟨71, [6], [], false, [], []⟩, ⟨72, [], [], false, [], []⟩, ⟨73, [7, 8], [], false, [], []⟩] tMixd (by rfl) (by kernel_rfl) (by rfl) (by rfl)
                ⟨.plain rfl (by intro X; exact op_fieldAddr (off := 6) rfl tF32_5d),
                ⟨.plain rfl (by intro X; rintro _ _ ⟨rfl, rfl⟩; exact op_load1 rfl tO30d (Ent.lab (l := 6) rfl (says_cel 6))),
                ⟨.plain rfl (by intro X; exact op_move rfl),
                ⟨.plain rfl (by intro X; exact op_fieldAddr (off := 6) rfl tF32_5d),
                ⟨.plain rfl (by intro X; rintro _ _ ⟨rfl, rfl⟩; exact op_load1 rfl tO30d (Ent.lab (l := 6) rfl (says_cel 6))),
                ⟨.plain rfl (by intro X; exact op_move rfl),
                ⟨.plain rfl (by intro X; rintro _ _ ⟨rfl, rfl⟩ _ _ ⟨rfl, rfl⟩; exact op_idxZ rfl rfl tS30d (Sl.ent (Sl.lab 96 rfl (by unfold maxLen; omega))) (by omega) (by omega)),
                ⟨.plain rfl (by intro X; rintro _ _ ⟨rfl, rfl⟩; exact op_ldx rfl tO3d (Sl.lab 96 rfl (by unfold maxLen; omega)) (by assumption) (by rfl)),
                ⟨.plain rfl (by intro X; exact op_move rfl),
                ⟨.plain rfl (by intro X; rintro _ _ ⟨rfl, rfl⟩ _ _ ⟨rfl, rfl⟩; exact op_max rfl rfl),
                trivial⟩⟩⟩⟩⟩⟩⟩⟩⟩⟩ ?_
            rintro _ _ ⟨rfl, rfl⟩ _ _ ⟨rfl, rfl⟩ _ _ ⟨rfl, rfl⟩ _ _ ⟨rfl, rfl⟩ _ _ ⟨rfl, rfl⟩ _ _ ⟨rfl, rfl⟩ _ _ ⟨rfl, rfl⟩ _ _ ⟨rfl, rfl⟩ _ _ ⟨rfl, rfl⟩ _ _ ⟨rfl, rfl⟩
            refine wl_norm (e' := [(1, _), (2, _), (4, _), (6, _), (24, _), (25, _), (26, _), (65, _), (66, _), (73, _)]) (.cons rfl (.cons rfl (.cons rfl (.cons rfl (.cons rfl (.cons rfl (.cons rfl (.cons rfl (.cons rfl (.cons rfl (.nil _))))))))))) (by dsimp only [cond_false, cond_true, List.nil_append, List.cons_append]) ?_
            refine zd rfl (op_idxZ rfl rfl tS30d (Sl.ent (Sl.lab 96 rfl (by unfold maxLen; omega))) (by omega) (by omega)) ?_
            refine wl_op0 [96] rfl rfl rfl (op_storeX (lab := 96) (j := 0) (b' := max y x) rfl rfl tO3d rfl rfl rfl hy (by decide) rfl) ?_
            rintro _ _ ⟨rfl, rfl⟩
            refine wl_nil (st_bn (st_bn (st_tn (w_region (zd rfl (op_add' rfl rfl (by omega)) ?_)))))
            refine zm rfl (wl_nil ?_)
            refine st_roundQ (x := (i, out, a_out, c_out)) ((i + 1, out.set ((fr + i) / sz - fr / sz).toNat (max y x), a_out, c_out)) [96, 6, 2, 4] rfl (by simp only [List.length_set]; rfl) (.cons rfl (.nil _)) (.cons rfl (.cons rfl (.cons rfl (.cons rfl (.cons rfl (.cons rfl (.nil _))))))) (by
                try dsimp only
                refine ⟨by omega, ?_⟩
                unfold coarseN
                rw [← ho, hgd]
                exact hstep) (by
                try dsimp only
                omega)
          · -- c60.f
            have hstep : out.set ((fr + i) / sz - fr / sz).toNat (y + x) = cstep (decide (k.met = 3)) out ((fr + i) / sz - fr / sz).toNat x := by unfold cstep; rw [if_neg (by omega), hyd, decide_eq_false hc60]; simp
            refine w_region (zd rfl (op_fieldAddr (off := 6) rfl tF32_5d) (zd rfl (op_load1 rfl tO30d (Ent.lab (l := 6) rfl (says_cel 6))) (zm rfl (zd rfl (op_idxZ rfl rfl tS30d (Sl.ent (Sl.lab 96 rfl (by unfold maxLen; omega))) (by omega) (by omega)) ?_))))
            refine zd rfl (op_ldx rfl tO3d (Sl.lab 96 rfl (by unfold maxLen; omega)) (by assumption) (by rfl)) ?_
            refine zm rfl (zd rfl (op_add' rfl rfl (by omega)) ?_)
            refine zd rfl (op_idxZ rfl rfl tS30d (Sl.ent (Sl.lab 96 rfl (by unfold maxLen; omega))) (by omega) (by omega)) ?_
            refine wl_op0 [96] rfl rfl rfl (op_storeX (lab := 96) (j := 0) (b' := y + x) rfl rfl tO3d rfl rfl rfl hy (by decide) rfl) ?_
            rintro _ _ ⟨rfl, rfl⟩
            refine wl_nil (st_bn (st_bn (st_tn (w_region (zd rfl (op_add' rfl rfl (by omega)) ?_)))))
            refine zm rfl (wl_nil ?_)
            refine st_roundQ (x := (i, out, a_out, c_out)) ((i + 1, out.set ((fr + i) / sz - fr / sz).toNat (y + x), a_out, c_out)) [96, 6, 2, 4] rfl (by simp only [List.length_set]; rfl) (.cons rfl (.nil _)) (.cons rfl (.cons rfl (.cons rfl (.cons rfl (.cons rfl (.cons rfl (.nil _))))))) (by
                try dsimp only
                refine ⟨by omega, ?_⟩
                unfold coarseN
                rw [← ho, hgd]
                exact hstep) (by
                try dsimp only
                omega)
      · -- c27.f
        obtain rfl : i = l.length := by omega
        have hlen : out.length ≤ l.length := by rw [ho]; exact coarse_le _
        refine w_exit (st_te ?_)
        refine st_te ?_
        refine st_be (st_tn (w_seq (w_seq (w_region (zd rfl (op_fieldAddr (off := 6) rfl tF32_5d) (zd rfl (op_load1 rfl tO30d (Ent.lab (l := 6) rfl (says_cel 6))) (zd rfl (op_fn Try.func62 rfl rfl rfl (containsFuncI (fs := []) (cs := []) (p := fun x => decide (x > 1099511627776)) (Sl.lab 96 rfl (by unfold maxLen; omega)) Try.func67 rfl rfl (fun X r => big_any r))) ?_)))))))
        refine wl_nil (st_tn (w_cond rfl (fun hc78 => ?_) (fun hc78 => ?_)))
        · -- c78.t
          refine w_emp 77 (slO_nil 3 1) ?_
          refine w_seq (w_region (zd rfl (op_build tB32d rfl rfl) (wl_op0 [4] rfl rfl rfl (op_store rfl rfl tZ32d (by rfl) (by rfl) (by exact Nat.le_of_ble_eq_true rfl)) ?_)))
          rintro _ _ ⟨rfl, rfl⟩
          refine za rfl (wl_nil (st_tn (w_ret (st_tr (st_ret (vs := [_, _]) [77] Try.results51 ⟨⟨_, rfl, Ent.mono (Ent.lab (l := 4) rfl (says_cel 0)) (fun _ h => run_load_agg tA32d h (Nat.le_of_ble_eq_true rfl))⟩, ⟨rfl, trivial⟩⟩ rfl ?_)))))
          refine ⟨[(lab, _)], rfl, ?_⟩
          rw [ho] at hc78; unfold coarsenR; rw [if_neg hc15, if_pos hc78]; exact ⟨none, 0, rfl, rfl⟩
        · -- c78.f
          refine w_skip (st_tn (w_seq (w_region (zd rfl (op_loadA rfl tA32d (Ent.lab (l := 6) rfl (says_cel 0)) (Nat.le_of_ble_eq_true rfl)) (wl_op0 [4] rfl rfl rfl (op_store rfl rfl tZ32d (by rfl) (by rfl) (by exact Nat.le_of_ble_eq_true rfl)) ?_)))))
          rintro _ _ ⟨rfl, rfl⟩
          refine za rfl (wl_nil (st_tn (w_ret (st_ret (vs := [_, _]) [96] Try.results51 ⟨⟨_, rfl, Ent.mono (Ent.lab (l := 4) rfl (says_cel 0)) (fun _ h => run_load_agg tA32d h (Nat.le_of_ble_eq_true rfl))⟩, ⟨rfl, trivial⟩⟩ rfl ?_))))
          refine ⟨[(lab, _)], rfl, ?_⟩
          rw [ho] at hc78; unfold coarsenR; rw [if_neg hc15, if_neg (by rw [hc78]; simp), ← ho]; exact ⟨_, _, rfl, rfl⟩
def movN (l : List Int) (w : Int) : Nat → Int
  | 0 => 0
  | i + 1 => movN l w i + l.getD i 0 - (if (i : Int) ≥ w then l.getD (i - w).toNat 0 else 0)
def movL (l : List Int) (w : Int) (n : Nat) : List Int := (List.range n).map fun i => movN l w (i + 1)
theorem movL_succ (l : List Int) (w : Int) (n : Nat) : movL l w (n + 1) = movL l w n ++ [movN l w (n + 1)] := by unfold movL; rw [List.range_succ, List.map_append]; rfl
theorem mov_bd {l : List Int} {w B : Int} (hB : 0 ≤ B) (hv : ∀ x ∈ l, 0 ≤ x ∧ x ≤ B) : ∀ i : Nat, -(i * B) ≤ movN l w i ∧ movN l w i ≤ i * B
  | 0 => by simp [movN]
  | i + 1 => by
    have ih := mov_bd (w := w) hB hv i
    have hg : ∀ j : Nat, 0 ≤ l.getD j 0 ∧ l.getD j 0 ≤ B := fun j => by
      rw [List.getD_eq_getElem?_getD]
      cases hx : l[j]? with
      | none => simp; omega
      | some y => exact hv y (List.mem_of_getElem? hx)
    have h1 := hg i
    have h2 := hg (i - w).toNat
    have hmul : ((i + 1 : Nat) : Int) * B = i * B + B := by rw [Int.natCast_add, Int.add_mul]; simp
    rw [hmul]
    unfold movN
    split <;> omega
def movE (k : SK) (w : Int) : Int := if w < 1 ∨ w > 1024 then 2 else if k.met = 3 then 12 else 0
set_option maxHeartbeats 2000000 in
set_option maxRecDepth 100000 in
theorem moving_any {σ : World} {F : List Res} {a : Option Addr} {c : Nat} {l : List Int} (lab : Nat) (k : SK) (fr w : Int) (h : Sl σ F encZ 1 (.slice a l.length c) l) (hl : l.length ≤ 1048576) (hv : ∀ x ∈ l, 0 ≤ x ∧ x ≤ 1099511627776) :
    FnT Try.prog σ F 52 [sr k fr (.slice a l.length c), .int .i64 w] [] (fun u ρ => ∃ m a c, m = (if movE k w = 0 then movL l w l.length else []) ∧ u = .tuple #[.slice a m.length c, .int .i64 (movE k w)] ∧ ρ = [(lab, slW 3 encZ 1 (.slice a m.length c) m)]) := by
  refine fn_of 50 Try.func52 rfl Try.ntmps52 rfl ?_
  have hle := h.i64
  refine w_seq (w_region (wl_op [] rfl rfl rfl rfl (op_box (T := 32) (l := 2) rfl) ?_))
  rintro _ _ ⟨b2, rfl, rfl⟩
  refine za rfl (za rfl (wl_nil (st_tn (w_seq (w_block (w_seq (w_cutL [(10, .bool (decide (w < 1 ∨ w > 1024)))] [1, 2] [2] rfl (fun K' hK => ?_) ?_)))))))
  · -- cut r1
    refine w_region (zm rfl (zd rfl (op_lss rfl rfl) (zm rfl (wl_gsplit (t := 13) rfl (fun hg13 => ?_) (fun hg13 => ?_)))))
    · -- 13 is True
      refine wl_unwanted rfl rfl rfl rfl rfl rfl rfl rfl (wl_unwanted rfl rfl rfl rfl rfl rfl rfl rfl (zd rfl (op_pick_t rfl rfl) (za rfl (wl_nil (st_tn ?_)))))
      exact cut_done1 [2] hK rfl (by first | (rw [decide_eq_decide]; omega) | (symm; rw [decide_eq_false_iff_not]; omega) | (symm; rw [decide_eq_true_iff]; omega) | (simp; done) | (simp; omega) | (simp [*]; done) | (simp [*]; omega)) (by rfl) rfl rfl
    · -- 13 is False
      refine wl_wanted_det rfl rfl rfl rfl rfl rfl rfl (op_move rfl) (wl_wanted_det rfl rfl rfl rfl rfl rfl rfl (op_gtr rfl rfl) (zd rfl (op_pick_f rfl rfl) (za rfl (wl_nil (st_tn ?_)))))
      exact cut_done1 [2] hK rfl (by first | (rw [decide_eq_decide]; omega) | (symm; rw [decide_eq_false_iff_not]; omega) | (symm; rw [decide_eq_true_iff]; omega) | (simp; done) | (simp; omega) | (simp [*]; done) | (simp [*]; omega)) (by rfl) rfl rfl
  · -- behind r1
    show W _ _ _ _ _ [(10, _), (1, _), (2, _)] [(2, _)] _
    refine w_cond_d rfl (fun hc10 => ?_) (fun hc10 => ?_)
    · -- c10.t
      refine w_seq (w_emp 77 (slO_nil 3 1) ?_)
      refine w_region (za rfl (za rfl (wl_nil (st_tn (w_ret (st_br (st_tr (st_ret (vs := [_, _]) [77] Try.results52 ⟨rfl, ⟨rfl, trivial⟩⟩ rfl ?_))))))))
      refine ⟨[(lab, _)], rfl, ?_⟩
      have he : movE k w = 2 := by unfold movE; rw [if_pos hc10]
      exact ⟨[], none, 0, by rw [he]; rfl, by rw [he]; rfl, rfl⟩
    · -- c10.f
      refine w_seq (w_region (zd rfl (op_fieldAddr (off := 2) rfl tF32_2d) (zd rfl (op_load1 rfl tO3d (Ent.lab (l := 2) rfl (says_cel 2))) (zd rfl (op_eql rfl rfl) (za rfl (wl_nil (st_tn (w_cond_d rfl (fun hc17 => ?_) (fun hc17 => ?_)))))))))
      · -- c17.t
        refine w_seq (w_emp 77 (slO_nil 3 1) ?_)
        refine w_region (za rfl (za rfl (wl_nil (st_tn (w_ret (st_br (st_tr (st_ret (vs := [_, _]) [77] Try.results52 ⟨rfl, ⟨rfl, trivial⟩⟩ rfl ?_))))))))
        refine ⟨[(lab, _)], rfl, ?_⟩
        have he : movE k w = 12 := by unfold movE; rw [if_neg hc10, if_pos hc17]
        exact ⟨[], none, 0, by rw [he]; rfl, by rw [he]; rfl, rfl⟩
      · -- c17.f
        refine w_skip (st_bn (st_tn (w_seq (w_region (za rfl (wl_nil (st_tn (w_seq (w_region (za rfl (wl_nil (st_tn (w_seq ?_)))))))))))))
        refine w_seq (w_region (zd rfl (op_fieldAddr (off := 6) rfl tF32_5d) (zd rfl (op_load1 rfl tO30d (Ent.lab (l := 2) rfl (says_cel 6))) (zd rfl (op_lenT rfl tS30d (Sl.ent (by first | exact Sl.app (by assumption) _ | exact Sl.app (Sl.app (by assumption) _) _))) ?_))))
        refine zm rfl (wl_nil (st_tn (w_block (w_emp 6 (slO_nil 3 1) ?_))))
        refine w_loopQ (X := Nat × Int × List Int × Option Addr × Nat) (fun z => z.1 ≤ l.length ∧ z.2.1 = movN l w z.1 ∧ z.2.2.1 = movL l w z.1) (fun z => [(24, .int .i64 (z.1)), (7, .int .i64 (z.2.1)), (6, .slice (z.2.2.2.1) (z.2.2.1).length (z.2.2.2.2))]) (fun z => [(6, slW 3 SL.encZ 1 (.slice (z.2.2.2.1) (z.2.2.1).length (z.2.2.2.2)) (z.2.2.1))]) (fun z => l.length - z.1) ((0, _, [], none, 0)) [(1, _), (2, _), (22, _), (23, _)] [(2, _)] [6, 2] rfl (rfl) (.cons rfl (.cons rfl (.cons rfl (.nil _)))) (.cons rfl (.cons rfl (.cons rfl (.cons rfl (.nil _))))) (by
            try dsimp only
            exact ⟨Nat.zero_le _, rfl, rfl⟩) ?_
        rintro ⟨i, sum, out, a_out, c_out⟩ ⟨hi, hs, ho⟩
        refine w_norm2 (by dsimp only [List.cons_append, List.nil_append]) (by dsimp only [List.cons_append, List.nil_append]) ?_
        try dsimp only at hi hs ho ⊢
        refine w_seq (w_region (zd rfl (op_lss rfl rfl) (wl_nil (st_tn (w_seq (w_cond_d rfl (fun hc25 => ?_) (fun hc25 => ?_)))))))
        · -- c25.t
          obtain ⟨x, hx⟩ := getE (l := l) (i := i) (by omega)
          have hlt := ltE hx
          have hxb := hv x (List.mem_of_getElem? hx)
          have hgd : l.getD i 0 = x := by rw [List.getD_eq_getElem?_getD, hx]; rfl
          have hsb := mov_bd (w := w) (B := 1099511627776) (by omega) hv i
          rw [← hs] at hsb
          have hol : out.length = i := by rw [ho]; unfold movL; simp
          refine w_skip (st_tn (w_seq (w_block (w_seq (w_region (zm rfl (zd rfl (op_idx rfl rfl tS30d (Sl.ent (by first | exact Sl.app (by assumption) _ | exact Sl.app (Sl.app (by assumption) _) _)) (by omega)) ?_)))))))
          refine zd rfl (op_ldx rfl tO3d (by first | exact Sl.app (by assumption) _ | exact Sl.app (Sl.app (by assumption) _) _) (by assumption) (by rfl)) ?_
          refine za rfl (za rfl (wl_nil (st_tn (w_seq (w_region (zm rfl (zm rfl (zd rfl (op_add' rfl rfl (by omega)) ?_))))))))
          refine za rfl (wl_nil (st_tn (w_seq (w_seq (w_region (zm rfl (zm rfl (zd rfl (op_geq rfl rfl) (wl_nil (st_tn (w_cond_d rfl (fun hc34 => ?_) (fun hc34 => ?_))))))))))))
          · -- c34.t
            obtain ⟨y, hy⟩ := getE (l := l) (i := ((i : Int) - w).toNat) (by omega)
            have hyb := hv y (List.mem_of_getElem? hy)
            have hnew : sum + x - y = movN l w (i + 1) := by unfold movN; rw [if_pos hc34, ← hs, hgd, List.getD_eq_getElem?_getD, hy]; rfl
            refine w_region (zm rfl (zd rfl (op_fieldAddr (off := 6) rfl tF32_5d) (zd rfl (op_load1 rfl tO30d (Ent.lab (l := 2) rfl (says_cel 6))) (zm rfl (zm rfl (zd rfl (op_sub' rfl rfl (by omega)) ?_))))))
            refine zd rfl (op_idxZ rfl rfl tS30d (Sl.ent (by first | exact Sl.app (by assumption) _ | exact Sl.app (Sl.app (by assumption) _) _)) (by omega) (by omega)) ?_
            refine zd rfl (op_ldx rfl tO3d (by first | exact Sl.app (by assumption) _ | exact Sl.app (Sl.app (by assumption) _) _) (by assumption) (by rfl)) ?_
            refine zd rfl (op_sub' rfl rfl (by omega)) ?_
            refine za rfl (wl_nil (st_tn (w_region (zm rfl (zm rfl (wl_op [] rfl rfl rfl rfl (op_buildSlice (enc := SL.encZ) (l := [_]) (lab := 46) tL30_1d rfl rfl (fun _ => rfl) rfl) ?_))))))
            rintro _ _ ⟨a46, c46, rfl, rfl⟩
            refine wl_op [6] rfl rfl rfl rfl (op_append (lab := 6) (lab' := 47) rfl rfl tP30d SL.enc1Z (Sl.lab 46 rfl (by simp [maxLen])) (by first | omega | (simp; done) | (simp; omega) | (simp [*]; omega)) (by first | omega | (simp; done) | (simp; omega) | (simp [*]; omega))) ?_
            rintro _ _ ⟨a47, c47, rfl, rfl⟩
            refine za rfl (wl_nil (st_bn (st_tn (w_region (zd rfl (op_add' rfl rfl (by omega)) ?_)))))
            refine zm rfl (wl_nil ?_)
            refine st_roundQ (x := (i, sum, out, a_out, c_out)) ((i + 1, _, _, _, _)) [47, 2] rfl (rfl) (.cons rfl (.cons rfl (.cons rfl (.nil _)))) (.cons rfl (.cons rfl (.cons rfl (.cons rfl (.nil _))))) (by
                try dsimp only
                refine ⟨by omega, ?_, ?_⟩
                · exact hnew
                · rw [movL_succ, ← ho, ← hnew]) (by
                try dsimp only
                omega)
          · -- c34.f
            have hnew : sum + x = movN l w (i + 1) := by unfold movN; rw [if_neg hc34, ← hs, hgd]; omega
            refine w_skip (st_tn (w_region (zm rfl (zm rfl (wl_op [] rfl rfl rfl rfl (op_buildSlice (enc := SL.encZ) (l := [_]) (lab := 46) tL30_1d rfl rfl (fun _ => rfl) rfl) ?_)))))
            rintro _ _ ⟨a46, c46, rfl, rfl⟩
            refine wl_op [6] rfl rfl rfl rfl (op_append (lab := 6) (lab' := 47) rfl rfl tP30d SL.enc1Z (Sl.lab 46 rfl (by simp [maxLen])) (by first | omega | (simp; done) | (simp; omega) | (simp [*]; omega)) (by first | omega | (simp; done) | (simp; omega) | (simp [*]; omega))) ?_
            rintro _ _ ⟨a47, c47, rfl, rfl⟩
            refine za rfl (wl_nil (st_bn (st_tn (w_region (zd rfl (op_add' rfl rfl (by omega)) ?_)))))
            refine zm rfl (wl_nil ?_)
            refine st_roundQ (x := (i, sum, out, a_out, c_out)) ((i + 1, _, _, _, _)) [47, 2] rfl (rfl) (.cons rfl (.cons rfl (.cons rfl (.nil _)))) (.cons rfl (.cons rfl (.cons rfl (.cons rfl (.nil _))))) (by
                try dsimp only
                refine ⟨by omega, ?_, ?_⟩
                · exact hnew
                · rw [movL_succ, ← ho, ← hnew]) (by
                try dsimp only
                omega)
        · -- c25.f
          refine w_exit (st_te ?_)
          refine st_te ?_
          refine st_be (st_tn (w_seq (w_region (zm rfl (za rfl (za rfl (wl_nil (st_tn (w_ret (st_ret (vs := [_, _]) [6] Try.results52 ⟨rfl, ⟨rfl, trivial⟩⟩ rfl ?_))))))))))
          refine ⟨[(lab, _)], rfl, ?_⟩
          obtain rfl : i = l.length := by omega
          have he : movE k w = 0 := by unfold movE; rw [if_neg hc10, if_neg hc17]
          exact ⟨out, _, _, by rw [he, if_pos rfl, ho], by rw [he]; rfl, rfl⟩
set_option maxHeartbeats 400000 in
set_option maxRecDepth 100000 in
theorem quantile_any {σ : World} {F : List Res} {a : Option Addr} {c : Nat} {l : List Int} (x y : Int) (h : Sl σ F encZ 1 (.slice a l.length c) l) (hl : l.length ≤ 1099511627776) (hx : -9223372036854775808 ≤ x ∧ x ≤ 9223372036854775807) (hy : -9223372036854775808 ≤ y ∧ y ≤ 9223372036854775807) :
    FnT Try.prog σ F 50 [.slice a l.length c, frac x y] [] (fun u ρ => u = .tuple #[.int .i64 (if goodB x y then quantZ l x y else 0), .int .i64 (if goodB x y then 0 else 3)] ∧ ρ = []) := by
  refine fn_of 12 Try.func50 rfl Try.ntmps50 rfl ?_
  refine w_seq (w_region (wl_op [] rfl rfl rfl rfl (op_box (T := 29) (l := 3) rfl) ?_))
  rintro _ _ ⟨b3, rfl, rfl⟩
  refine za rfl (za rfl (wl_nil (st_tn (w_seq (w_seq (w_region (zd rfl (op_loadA rfl tA29d (Ent.lab (l := 3) rfl (says_cel 0)) (Nat.le_of_ble_eq_true rfl)) (zd rfl (op_fn Try.func61 rfl rfl rfl (squant_any _ _ (by omega) (by omega))) ?_))))))))
  refine zd rfl (op_not_d rfl) (wl_nil (st_tn (w_cond_d rfl (fun hc8 => ?_) (fun hc8 => ?_))))
  · -- c8.t
    refine w_seq (w_region (za rfl (za rfl (wl_nil (st_tn (w_ret (st_tr (st_ret (vs := [_, _]) [] Try.results50 ⟨rfl, ⟨rfl, trivial⟩⟩ rfl ?_))))))))
    refine ⟨_, rfl, ?_⟩
    rw [if_neg hc8, if_neg hc8]; exact ⟨rfl, rfl⟩
  · -- c8.f
    refine w_skip (st_tn (w_seq (w_region (zm rfl (zd rfl (op_loadA rfl tA29d (Ent.lab (l := 3) rfl (says_cel 0)) (Nat.le_of_ble_eq_true rfl)) (zd rfl (op_fn Try.func65 rfl rfl rfl (rank_any x y (Sl.app h _) hl (Classical.byContradiction hc8))) (za rfl (za rfl (wl_nil (st_tn (w_ret (st_ret (vs := [_, _]) [] Try.results50 ⟨rfl, ⟨rfl, trivial⟩⟩ rfl ?_))))))))))))
    refine ⟨_, rfl, ?_⟩
    have hg : goodB x y := Classical.byContradiction hc8
    rw [if_pos hg, if_pos hg]; exact ⟨rfl, rfl⟩
end Go.Proofs.Ytecmigildpkigaa.Ser
namespace Go.Proofs.Ytecmigildpkigaa.Ser
open Go Go.SL Go.RowKit
set_option linter.unusedVariables false
set_option linter.unusedSimpArgs false
theorem tA32e : aggB Try.prog 32 7 = true := by kernel_rfl
theorem tB29e : placesB Try.prog 29 = some ([(0, 1), (1, 1)], [Value.int .i64 0, Value.int .i64 0]) := by kernel_rfl
theorem tB32e : placesB Try.prog 32 = some ([(0, 1), (1, 1), (2, 1), (3, 2), (5, 1), (6, 1)], [Value.string .empty, Value.string .empty, Value.int .i64 0, Value.int .i64 0, Value.int .i64 0, Value.int .i64 0, Value.slice none 0 0]) := by kernel_rfl
theorem tF32_4e : fieldB Try.prog 32 4 5 = true := by kernel_rfl
theorem tF32_5e : fieldB Try.prog 32 5 6 = true := by kernel_rfl
theorem tL30_2e : zerosB Try.prog 30 3 1 2 = some [Value.int .i64 0, Value.int .i64 0] := by kernel_rfl
theorem tL30_3e : zerosB Try.prog 30 3 1 3 = some [Value.int .i64 0, Value.int .i64 0, Value.int .i64 0] := by kernel_rfl
theorem tN32e : (Try.prog.info? 32).bind (·.zero) = some (Value.agg #[Value.string .empty, Value.string .empty, Value.int .i64 0, Value.int .i64 0, Value.int .i64 0, Value.int .i64 0, Value.slice none 0 0]) := by kernel_rfl
theorem tO3e : oneB Try.prog 3 = true := by kernel_rfl
theorem tO30e : oneB Try.prog 30 = true := by kernel_rfl
theorem tZ32e : (Try.prog.info? 32).map (·.size) = some 7 := by kernel_rfl
def kApi : SK := ⟨⟨#[97, 112, 105]⟩, .empty, 1, 0, 0⟩
theorem coarse_known : coarsenR kApi 3 [1, 2, 4] 2 = ⟨kApi, 1, [1, 6], 0⟩ := by kernel_rfl
theorem mov_known : movL [1, 2, 4] 2 3 = [1, 3, 6] := by decide +kernel
theorem good_known : goodB 9 10 := by unfold goodB mkF; decide +kernel
theorem quant_known : quantZ [2, 9, 5] 9 10 = 9 := by
  have hr : rankOf ([2, 9, 5] : List Int).length 9 10 = 3 := by decide
  have hls := length_srt [2, 9, 5]
  obtain ⟨z, hz⟩ := getE (l := srt [2, 9, 5]) (i := (3 - 1 : Int).toNat) (by simp at hls ⊢; omega)
  have h9 := quant_unique (v := 9) (r := 3) (by omega) hz (by decide) (by decide)
  unfold quantZ
  rw [if_neg (by simp), hr, List.getD_eq_getElem?_getD, hz, ← h9]; rfl
set_option maxHeartbeats 2000000 in
set_option maxRecDepth 100000 in
theorem known_any {σ : World} {F : List Res} : FnT Try.prog σ F 33 [] [] (fun u ρ => u = .bool true ∧ ρ = []) := by
  refine fn_of 56 Try.func33 rfl Try.ntmps33 rfl ?_
  refine w_seq (w_region (za rfl (wl_nil (st_tn (w_seq (w_region (wl_op [] rfl rfl rfl rfl (op_buildSlice (enc := SL.encZ) (l := [_, _, _]) (lab := 9) tL30_3e rfl rfl (fun _ => rfl) rfl) ?_)))))))
  rintro _ _ ⟨a9, c9, rfl, rfl⟩
  refine zd rfl (op_build tB29e rfl rfl) (zd rfl (op_val (v' := .tuple #[.int .i64 9, .int .i64 0]) (by rw [if_pos good_known, if_pos good_known, quant_known]) (op_fn Try.func50 rfl rfl rfl (quantile_any (l := [2, 9, 5]) 9 10 (Sl.lab 9 rfl (by simp [maxLen])) (by simp) (by omega) (by omega)))) ?_)
  refine zm rfl (zd rfl (op_extract rfl rfl) (zd rfl (op_extract rfl rfl) (za rfl (za rfl (wl_nil (st_tn (w_seq (w_region (wl_op [] rfl rfl rfl rfl (op_buildSlice (enc := SL.encZ) (l := [_, _, _]) (lab := 14) tL30_3e rfl rfl (fun _ => rfl) rfl) ?_)))))))))
  rintro _ _ ⟨a14, c14, rfl, rfl⟩
  refine zd rfl (op_build tB32e rfl rfl) (wl_op [] rfl rfl rfl rfl (op_alloc (l := 3) tN32e) ?_)
  rintro _ _ ⟨b3, rfl, rfl⟩
  refine wl_op0 [3] rfl rfl rfl (op_store rfl rfl tZ32e (by rfl) (by rfl) (by exact Nat.le_of_ble_eq_true rfl)) ?_
  rintro _ _ ⟨rfl, rfl⟩
  refine wl_nil (st_tn (w_seq (w_region (zd rfl (op_loadA rfl tA32e (Ent.lab (l := 3) rfl (says_cel 0)) (Nat.le_of_ble_eq_true rfl)) (wl_op [] rfl rfl rfl rfl (op_fn Try.func51 rfl rfl rfl (show FnT Try.prog _ _ 51 [sr kApi 3 (.slice _ ([1, 2, 4] : List Int).length _), .int .i64 2] [] (SerV ⟨kApi, 1, [1, 6], 0⟩ 18) from coarse_known ▸ coarsen_any 18 kApi 3 2 (Sl.lab 14 rfl (by simp [maxLen])) (by simp) (by omega) (by simp))) ?_)))))
  rintro _ _ ⟨a18, c18, rfl, rfl⟩
  refine zm rfl (zd rfl (op_extract rfl rfl) (zd rfl (op_extract rfl rfl) (wl_op [] rfl rfl rfl rfl (op_alloc (l := 4) tN32e) ?_)))
  rintro _ _ ⟨b4, rfl, rfl⟩
  refine wl_op0 [4] rfl rfl rfl (op_store rfl rfl tZ32e (by rfl) (by rfl) (by exact Nat.le_of_ble_eq_true rfl)) ?_
  rintro _ _ ⟨rfl, rfl⟩
  refine za rfl (wl_nil (st_tn (w_seq (w_region (zd rfl (op_loadA rfl tA32e (Ent.lab (l := 3) rfl (says_cel 0)) (Nat.le_of_ble_eq_true rfl)) (wl_op [] rfl rfl rfl rfl (op_fn Try.func52 rfl rfl rfl (moving_any (l := [1, 2, 4]) 23 kApi 3 2 (Sl.lab 14 rfl (by simp [maxLen])) (by simp) (by simp))) ?_))))))
  rintro _ _ ⟨m23, a23, c23, hm23, rfl, rfl⟩
  obtain rfl : m23 = [1, 3, 6] := by rw [hm23, if_pos (by decide)]; exact mov_known
  refine zm rfl (zd rfl (op_extract rfl rfl) (zd rfl (op_extract rfl rfl) (za rfl (za rfl (wl_nil (st_tn (w_seq (w_region (zm rfl (zd rfl (op_eql rfl rfl) (zm rfl (wl_wanted_det rfl rfl rfl rfl rfl rfl rfl (op_move rfl) (wl_wanted_det rfl rfl rfl rfl rfl rfl rfl (op_eql rfl rfl) ?_)))))))))))))
  refine zd rfl (op_pick_t rfl rfl) (zm rfl (wl_wanted_det rfl rfl rfl rfl rfl rfl rfl (op_move rfl) (wl_wanted_det rfl rfl rfl rfl rfl rfl rfl (op_eql rfl rfl) (zd rfl (op_pick_t rfl rfl) (zm rfl (wl_wanted_det rfl rfl rfl rfl rfl rfl rfl (op_fieldAddr (off := 5) rfl tF32_4e) (wl_wanted_det rfl rfl rfl rfl rfl rfl rfl (op_load1 rfl tO3e (Ent.lab (l := 4) rfl (says_cel 5))) (wl_wanted_det rfl rfl rfl rfl rfl rfl rfl (op_eql rfl rfl) (zd rfl (op_pick_t rfl rfl) (zm rfl (wl_wanted_det rfl rfl rfl rfl rfl rfl rfl (op_fieldAddr (off := 6) rfl tF32_5e) (wl_wanted_det rfl rfl rfl rfl rfl rfl rfl (op_load1 rfl tO30e (Ent.lab (l := 4) rfl (says_cel 6))) (wl_wanted [] rfl rfl rfl rfl rfl rfl rfl rfl (op_buildSlice (enc := SL.encZ) (l := [_, _]) (lab := 44) tL30_2e rfl rfl (fun _ => rfl) rfl) ?_)))))))))))))
  rintro _ _ ⟨a44, c44, rfl, rfl⟩
  refine wl_wanted_det rfl rfl rfl rfl rfl rfl rfl (op_val (v' := .bool true) (by rfl) (op_fn Try.func53 rfl rfl rfl (ints_any (Sl.lab 18 rfl (by simp [maxLen])) (Sl.lab 44 rfl (by simp [maxLen]))))) ?_
  refine zd rfl (op_pick_t rfl rfl) (zm rfl (wl_wanted_det rfl rfl rfl rfl rfl rfl rfl (op_move rfl) (wl_wanted_det rfl rfl rfl rfl rfl rfl rfl (op_eql rfl rfl) (zd rfl (op_pick_t rfl rfl) (zm rfl (wl_wanted_det rfl rfl rfl rfl rfl rfl rfl (op_move rfl) (wl_wanted [] rfl rfl rfl rfl rfl rfl rfl rfl (op_buildSlice (enc := SL.encZ) (l := [_, _, _]) (lab := 53) tL30_3e rfl rfl (fun _ => rfl) rfl) ?_)))))))
  rintro _ _ ⟨a53, c53, rfl, rfl⟩
  refine wl_wanted_det rfl rfl rfl rfl rfl rfl rfl (op_val (v' := .bool true) (by rfl) (op_fn Try.func53 rfl rfl rfl (ints_any (Sl.lab 23 rfl (by simp [maxLen])) (Sl.lab 53 rfl (by simp [maxLen]))))) ?_
  refine zd rfl (op_pick_t rfl rfl) (za rfl (wl_nil (st_tn (w_ret (st_ret (vs := [_]) [] Try.results33 ⟨rfl, trivial⟩ rfl ?_)))))
  refine ⟨_, rfl, ?_⟩
  exact ⟨rfl, rfl⟩
end Go.Proofs.Ytecmigildpkigaa.Ser
namespace Go.Proofs.Ytecmigildpkigaa
open Go Go.SL Go.RowKit Go.SegP
set_option linter.unusedVariables false
set_option linter.unusedSimpArgs false
theorem tO3ua : oneB Try.prog 3 = true := by kernel_rfl
theorem tP30ua : appB Try.prog 30 3 1 8 = true := by kernel_rfl
theorem tS30ua : sliceB Try.prog 30 3 1 = true := by kernel_rfl
theorem take_snocS {α : Type} {l : List α} {i : Nat} {x : α} (h : l[i]? = some x) : l.take (i + 1) = l.take i ++ [x] := by rw [List.take_add_one, h]; rfl
theorem take_allS {α : Type} {l : List α} {i : Nat} (h : ¬ i < l.length) : l.take i = l := List.take_of_length_le (by omega)
def NewI (l : List Int) (lab : Nat) (u : Value) (ρ : RL) : Prop := ∃ a c, u = .slice a l.length c ∧ ρ = [(lab, slW 3 SL.encZ 1 (.slice a l.length c) l)]
set_option maxHeartbeats 400000 in
set_option maxRecDepth 100000 in
theorem cNaNI {σ : World} {F : List Res} (x : Int) : FnT Try.prog σ F 80 [.int .i64 x] [] (fun u ρ => u = .bool false ∧ ρ = []) := by
  refine fn_of 6 Try.func80 rfl Try.ntmps80 rfl ?_
  refine w_seq (w_region (za rfl (wl_nil (st_tn (w_seq (w_region (zm rfl (zm rfl (zd rfl (op_neq rfl rfl) (za rfl (wl_nil (st_tn (w_ret ?_)))))))))))))
  refine st_ret (vs := [_]) [] Try.results80 ⟨rfl, trivial⟩ rfl ?_
  refine ⟨_, rfl, ?_⟩
  simp [retv]
set_option maxHeartbeats 400000 in
set_option maxRecDepth 100000 in
theorem sNaNI {σ : World} {F : List Res} (x : Int) : FnT Try.prog σ F 71 [.int .i64 x] [] (fun u ρ => u = .bool false ∧ ρ = []) := by
  refine fn_of 6 Try.func71 rfl Try.ntmps71 rfl ?_
  refine w_seq (w_region (za rfl (wl_nil (st_tn (w_seq (w_region (zm rfl (zm rfl (zd rfl (op_neq rfl rfl) (za rfl (wl_nil (st_tn (w_ret ?_)))))))))))))
  refine st_ret (vs := [_]) [] Try.results71 ⟨rfl, trivial⟩ rfl ?_
  refine ⟨_, rfl, ?_⟩
  simp [retv]
set_option maxHeartbeats 400000 in
set_option maxRecDepth 100000 in
theorem lessI {σ : World} {F : List Res} (x y : Int) : FnT Try.prog σ F 70 [.int .i64 x, .int .i64 y] [] (fun u ρ => u = .bool (decide (x < y)) ∧ ρ = []) := by
  refine fn_of 17 Try.func70 rfl Try.ntmps70 rfl ?_
  refine w_seq (w_region (za rfl (wl_nil (st_tn (w_seq (w_region (zm rfl (zd rfl (op_fn Try.func80 rfl rfl rfl (cNaNI _)) (zm rfl (wl_unwanted rfl rfl rfl rfl rfl rfl rfl rfl (wl_unwanted rfl rfl rfl rfl rfl rfl rfl rfl (wl_unwanted rfl rfl rfl rfl rfl rfl rfl rfl (zd rfl (op_pick_f rfl rfl) ?_)))))))))))))
  refine zm rfl (wl_wanted_det rfl rfl rfl rfl rfl rfl rfl (op_move rfl) (wl_wanted_det rfl rfl rfl rfl rfl rfl rfl (op_move rfl) (wl_wanted_det rfl rfl rfl rfl rfl rfl rfl (op_lss rfl rfl) (zd rfl (op_pick_f rfl rfl) (za rfl (wl_nil (st_tn (w_ret (st_ret (vs := [_]) [] Try.results70 ⟨rfl, trivial⟩ rfl ?_)))))))))
  refine ⟨_, rfl, ?_⟩
  exact ⟨rfl, rfl⟩
set_option maxHeartbeats 400000 in
set_option maxRecDepth 100000 in
theorem compareI {σ : World} {F : List Res} (x y : Int) : FnT Try.prog σ F 74 [.int .i64 x, .int .i64 y] [] (fun u ρ => u = .int .i64 (if x < y then -1 else if x > y then 1 else 0) ∧ ρ = []) := by
  refine fn_of 20 Try.func74 rfl Try.ntmps74 rfl ?_
  refine w_seq (w_region (za rfl (wl_nil (st_tn (w_seq (w_region (zm rfl (zd rfl (op_fn Try.func80 rfl rfl rfl (cNaNI _)) (za rfl (wl_nil (st_tn (w_seq (w_region ?_)))))))))))))
  refine zm rfl (zd rfl (op_fn Try.func80 rfl rfl rfl (cNaNI _)) (za rfl (wl_nil (st_tn (w_seq (w_seq (w_region (zm rfl (wl_nil (st_tn (w_cond_f (rfl) ?_)))))))))))
  refine w_skip (st_tn (w_seq (w_seq (w_region (zm rfl (wl_nil (st_tn (w_cond_f (rfl) ?_))))))))
  refine w_skip (st_tn (w_seq (w_seq (w_region (zm rfl (zm rfl (zd rfl (op_lss rfl rfl) (wl_nil (st_tn (w_cond_d rfl (fun hc16 => ?_) (fun hc16 => ?_)))))))))))
  · -- c16.t
    refine w_seq (w_region (za rfl (wl_nil (st_tn (w_ret (st_tr (st_ret (vs := [_]) [] Try.results74 ⟨rfl, trivial⟩ rfl ?_)))))))
    refine ⟨_, rfl, ?_⟩
    rw [if_pos hc16]; exact ⟨rfl, rfl⟩
  · -- c16.f
    refine w_skip (st_tn (w_seq (w_seq (w_region (zm rfl (zm rfl (zd rfl (op_gtr rfl rfl) (wl_nil (st_tn (w_cond_d rfl (fun hc19 => ?_) (fun hc19 => ?_)))))))))))
    · -- c19.t
      refine w_seq (w_region (za rfl (wl_nil (st_tn (w_ret (st_tr (st_ret (vs := [_]) [] Try.results74 ⟨rfl, trivial⟩ rfl ?_)))))))
      refine ⟨_, rfl, ?_⟩
      rw [if_neg hc16, if_pos hc19]; exact ⟨rfl, rfl⟩
    · -- c19.f
      refine w_skip (st_tn (w_seq (w_region (za rfl (wl_nil (st_tn (w_ret (st_ret (vs := [_]) [] Try.results74 ⟨rfl, trivial⟩ rfl ?_))))))))
      refine ⟨_, rfl, ?_⟩
      rw [if_neg hc16, if_neg hc19]; exact ⟨rfl, rfl⟩
set_option maxHeartbeats 1000000 in
set_option maxRecDepth 100000 in
theorem bsearchI {σ : World} {F : List Res} {a : Option Addr} {c : Nat} {l : List Int} (x : Int) (h : Sl σ F SL.encZ 1 (.slice a l.length c) l) (hd : l.Pairwise (· ≤ ·)) (hl : l.length ≤ 1099511627776) :
    FnT Try.prog σ F 57 [.slice a l.length c, .int .i64 x] [] (fun u ρ => ∃ (k : Nat) (b : Bool), IsPos l x k ∧ u = .tuple #[.int .i64 (k : Int), .bool b] ∧ ρ = []) := by
  refine fn_of 54 Try.func57 rfl Try.ntmps57 rfl ?_
  have hle := h.i64
  have hmono : ∀ (i j : Nat) (y z : Int), i ≤ j → l[i]? = some y → l[j]? = some z → y ≤ z := fun i j y z hij hy hz => by
    obtain ⟨h1, h2⟩ := List.getElem?_eq_some_iff.1 hy
    obtain ⟨h3, h4⟩ := List.getElem?_eq_some_iff.1 hz
    rcases Nat.lt_or_eq_of_le hij with h5 | h5
    · have := List.pairwise_iff_getElem.1 hd i j h1 h3 h5; omega
    · subst h5; rw [hy] at hz; simp at hz; omega
  refine w_seq (w_region (za rfl (za rfl (wl_nil (st_tn (w_seq (w_region (zm rfl (zd rfl (op_lenT rfl tS30ua (Sl.ent (by first | exact Sl.app (by assumption) _ | exact Sl.app (Sl.app (by assumption) _) _))) ?_)))))))))
  refine za rfl (wl_nil (st_tn (w_seq (w_region (zm rfl (za rfl (za rfl (wl_nil (st_tn (w_seq (w_block ?_)))))))))))
  refine w_loopQ (X := Nat × Nat) (fun z => z.1 ≤ z.2 ∧ z.2 ≤ l.length ∧ (∀ k y, k < z.1 → l[k]? = some y → y < x) ∧ (∀ k y, z.2 ≤ k → l[k]? = some y → x ≤ y)) (fun z => [(7, .int .i64 (z.1)), (8, .int .i64 (z.2))]) (fun _ => []) (fun z => z.2 - z.1) ((0, l.length)) [(0, _), (1, _), (6, _)] [] [] rfl (rfl) (.cons rfl (.cons rfl (.nil _))) (.cons rfl (.cons rfl (.cons rfl (.nil _)))) (by
      try dsimp only
      exact ⟨Nat.zero_le _, Nat.le_refl _, fun k x hk => by omega, fun k x hk hx => by rw [List.getElem?_eq_none (by omega)] at hx; simp at hx⟩) ?_
  rintro ⟨i, j⟩ ⟨hij, hj, h1, h2⟩
  refine w_norm2 (by dsimp only [List.cons_append, List.nil_append]) (by dsimp only [List.cons_append, List.nil_append]) ?_
  try dsimp only at hij hj h1 h2 ⊢
  refine w_seq (w_seq (w_region (zm rfl (zm rfl (zd rfl (op_lss rfl rfl) (wl_nil (st_tn (w_cond_d rfl (fun hc15 => ?_) (fun hc15 => ?_)))))))))
  · -- c15.t
    obtain ⟨z, hz⟩ := getE (l := l) (i := (i + j) / 2) (by omega)
    refine w_skip (st_tn (w_block (w_seq (w_region (zm rfl (zm rfl (zd rfl (op_add' rfl rfl (by omega)) ?_)))))))
    refine zd rfl (op_convU64 rfl (by rw [Try.underlying3]; rfl) Try.underlying58 (by omega)) ?_
    refine zd rfl (op_val (v' := .int .u64 (((i + j) / 2 : Nat) : Int)) (by congr 1) (op_shrN rfl rfl (by omega) (by omega))) ?_
    refine zd rfl (op_convI64 rfl (by rw [Try.underlying58]; rfl) Try.underlying3 (by omega)) ?_
    refine za rfl (wl_nil (st_tn (w_seq (w_region (zm rfl (zm rfl (zd rfl (op_idx rfl rfl tS30ua (Sl.ent (by first | exact Sl.app (by assumption) _ | exact Sl.app (Sl.app (by assumption) _) _)) (by omega)) ?_)))))))
    refine zd rfl (op_ldx rfl tO3ua (by first | exact Sl.app (by assumption) _ | exact Sl.app (Sl.app (by assumption) _) _) (by assumption) (by rfl)) ?_
    refine zm rfl (zd rfl (op_fn Try.func70 rfl rfl rfl (lessI _ _)) (wl_nil (st_tn (w_cond_d rfl (fun hc27 => ?_) (fun hc27 => ?_)))))
    · -- c27.t
      refine w_region (zm rfl (zd rfl (op_add' rfl rfl (by omega)) ?_))
      refine za rfl (wl_nil (st_bn ?_))
      refine st_roundQ (x := (i, j)) (((i + j) / 2 + 1, j)) [] rfl (rfl) (.cons rfl (.cons rfl (.nil _))) (.cons rfl (.cons rfl (.cons rfl (.nil _)))) (by
          try dsimp only
          exact ⟨by omega, hj, fun k y hk hy => by have := hmono k ((i + j) / 2) y z (by omega) hy hz; omega, h2⟩) (by
          try dsimp only
          omega)
    · -- c27.f
      refine w_region (zm rfl (za rfl (wl_nil (st_bn ?_))))
      refine st_roundQ (x := (i, j)) ((i, (i + j) / 2)) [] rfl (rfl) (.cons rfl (.cons rfl (.nil _))) (.cons rfl (.cons rfl (.cons rfl (.nil _)))) (by
          try dsimp only
          exact ⟨by omega, by omega, h1, fun k y hk hy => by have := hmono ((i + j) / 2) k z y (by omega) hz hy; omega⟩) (by
          try dsimp only
          omega)
  · -- c15.f
    refine w_exit (st_te ?_)
    refine st_te ?_
    refine st_be (st_tn (w_seq ?_))
    have hpos : IsPos l x i := ⟨by omega, fun y hy => by
      obtain ⟨q, hq⟩ := List.getElem?_of_mem hy
      rw [List.getElem?_take] at hq
      split at hq
      · exact h1 q y (by assumption) hq
      · simp at hq, fun y hy => by
      obtain ⟨q, hq⟩ := List.getElem?_of_mem hy
      rw [List.getElem?_drop] at hq
      exact h2 (i + q) y (by omega) hq⟩
    refine w_region (zm rfl (zm rfl (zm rfl (zd rfl (op_lss rfl rfl) (zm rfl (wl_gsplit (t := 35) rfl (fun hg35 => ?_) (fun hg35 => ?_)))))))
    · -- 35 is True
      obtain ⟨z, hz⟩ := getE (l := l) (i := i) (by omega)
      refine wl_wanted_det rfl rfl rfl rfl rfl rfl rfl (op_move rfl) (wl_wanted_det rfl rfl rfl rfl rfl rfl rfl (op_move rfl) (wl_wanted_det rfl rfl rfl rfl rfl rfl rfl (op_idx rfl rfl tS30ua (Sl.ent (by first | exact Sl.app (by assumption) _ | exact Sl.app (Sl.app (by assumption) _) _)) (by omega)) ?_))
      refine wl_wanted_det rfl rfl rfl rfl rfl rfl rfl (op_ldx rfl tO3ua (by first | exact Sl.app (by assumption) _ | exact Sl.app (Sl.app (by assumption) _) _) (by assumption) (by rfl)) ?_
      refine wl_wanted_det rfl rfl rfl rfl rfl rfl rfl (op_move rfl) (wl_wanted_det rfl rfl rfl rfl rfl rfl rfl (op_eql rfl rfl) (wl_wanted_det rfl rfl rfl rfl rfl rfl rfl (op_move rfl) (wl_gsplit (t := 42) rfl (fun hg42 => ?_) (fun hg42 => ?_))))
      · -- 42 is True
        refine wl_unwanted rfl rfl rfl rfl rfl rfl rfl rfl (wl_unwanted rfl rfl rfl rfl rfl rfl rfl rfl (wl_unwanted rfl rfl rfl rfl rfl rfl rfl rfl (wl_unwanted rfl rfl rfl rfl rfl rfl rfl rfl (wl_unwanted rfl rfl rfl rfl rfl rfl rfl rfl (wl_unwanted rfl rfl rfl rfl rfl rfl rfl rfl (wl_unwantedU rfl rfl rfl rfl rfl rfl rfl ?_))))))
        refine wl_unwantedU rfl rfl rfl rfl rfl rfl rfl ?_
        refine wl_unwanted rfl rfl rfl rfl rfl rfl rfl rfl (wl_wanted_det rfl rfl rfl rfl rfl rfl rfl (op_pick_t rfl rfl) (zd rfl (op_pick_t rfl rfl) (za rfl (za rfl (wl_nil (st_tn (w_ret (st_ret (vs := [_, _]) [] Try.results57 ⟨rfl, ⟨rfl, trivial⟩⟩ rfl ?_))))))))
        refine ⟨_, rfl, ?_⟩
        exact ⟨i, _, hpos, rfl, rfl⟩
      · -- 42 is False
        refine wl_wanted_det rfl rfl rfl rfl rfl rfl rfl (op_move rfl) (wl_wanted_det rfl rfl rfl rfl rfl rfl rfl (op_move rfl) (wl_wanted_det rfl rfl rfl rfl rfl rfl rfl (op_idx rfl rfl tS30ua (Sl.ent (by first | exact Sl.app (by assumption) _ | exact Sl.app (Sl.app (by assumption) _) _)) (by omega)) ?_))
        refine wl_wanted_det rfl rfl rfl rfl rfl rfl rfl (op_ldx rfl tO3ua (by first | exact Sl.app (by assumption) _ | exact Sl.app (Sl.app (by assumption) _) _) (by assumption) (by rfl)) ?_
        refine wl_wanted_det rfl rfl rfl rfl rfl rfl rfl (op_fn Try.func71 rfl rfl rfl (sNaNI _)) (wl_wanted_det rfl rfl rfl rfl rfl rfl rfl (op_move rfl) (wl_unwanted rfl rfl rfl rfl rfl rfl rfl rfl (wl_unwanted rfl rfl rfl rfl rfl rfl rfl rfl (wl_wanted_det rfl rfl rfl rfl rfl rfl rfl (op_pick_f rfl rfl) (wl_wanted_det rfl rfl rfl rfl rfl rfl rfl (op_pick_f rfl rfl) (zd rfl (op_pick_t rfl rfl) (za rfl (za rfl (wl_nil (st_tn (w_ret (st_ret (vs := [_, _]) [] Try.results57 ⟨rfl, ⟨rfl, trivial⟩⟩ rfl ?_))))))))))))
        refine ⟨_, rfl, ?_⟩
        exact ⟨i, _, hpos, rfl, rfl⟩
    · -- 35 is False
      refine wl_unwanted rfl rfl rfl rfl rfl rfl rfl rfl (wl_unwanted rfl rfl rfl rfl rfl rfl rfl rfl (wl_unwanted rfl rfl rfl rfl rfl rfl rfl rfl (wl_unwanted rfl rfl rfl rfl rfl rfl rfl rfl (wl_unwanted rfl rfl rfl rfl rfl rfl rfl rfl (wl_unwanted rfl rfl rfl rfl rfl rfl rfl rfl (wl_unwanted rfl rfl rfl rfl rfl rfl rfl rfl (wl_unwantedU rfl rfl rfl rfl rfl rfl rfl ?_)))))))
      refine wl_unwantedU rfl rfl rfl rfl rfl rfl rfl ?_
      refine wl_unwantedU rfl rfl rfl rfl rfl rfl rfl ?_
      refine wl_unwantedU rfl rfl rfl rfl rfl rfl rfl ?_
      refine wl_unwantedU rfl rfl rfl rfl rfl rfl rfl ?_
      refine wl_unwantedU rfl rfl rfl rfl rfl rfl rfl ?_
      refine wl_unwantedU rfl rfl rfl rfl rfl rfl rfl ?_
      refine wl_unwantedU rfl rfl rfl rfl rfl rfl rfl ?_
      refine wl_unwantedU rfl rfl rfl rfl rfl rfl rfl ?_
      refine wl_unwanted rfl rfl rfl rfl rfl rfl rfl rfl (zd rfl (op_pick_f rfl rfl) (za rfl (za rfl (wl_nil (st_tn (w_ret (st_ret (vs := [_, _]) [] Try.results57 ⟨rfl, ⟨rfl, trivial⟩⟩ rfl ?_)))))))
      refine ⟨_, rfl, ?_⟩
      exact ⟨i, _, hpos, rfl, rfl⟩
set_option maxHeartbeats 1000000 in
set_option maxRecDepth 100000 in
theorem cmpI {σ : World} {F : List Res} {a b : Option Addr} {c d : Nat} {l m : List Int} (h : Sl σ F SL.encZ 1 (.slice a l.length c) l) (g : Sl σ F SL.encZ 1 (.slice b m.length d) m) :
    FnT Try.prog σ F 60 [.slice a l.length c, .slice b m.length d] [] (fun u ρ => u = .int .i64 (cmpL l m) ∧ ρ = []) := by
  refine fn_of 36 Try.func60 rfl Try.ntmps60 rfl ?_
  have hle := h.i64
  have gle := g.i64
  refine w_seq (w_region (za rfl (wl_nil (st_tn (w_seq (w_seq (w_region (zm rfl (zd rfl (op_lenT rfl tS30ua (Sl.ent (by first | exact Sl.app (by assumption) _ | exact Sl.app (Sl.app (by assumption) _) _))) ?_)))))))))
  refine zm rfl (wl_nil (st_tn (w_block ?_)))
  refine w_loopQ (X := Nat) (fun z => (z ≤ l.length ∧ z ≤ m.length) ∧ cmpL l m = cmpL (l.drop z) (m.drop z)) (fun z => [(11, .int .i64 (z))]) (fun _ => []) (fun z => l.length - z) (0) [(0, _), (1, _), (9, _), (10, _)] [] [] rfl (rfl) (.cons rfl (.nil _)) (.cons rfl (.cons rfl (.cons rfl (.cons rfl (.nil _))))) (by
      try dsimp only
      exact ⟨⟨Nat.zero_le _, Nat.zero_le _⟩, rfl⟩) ?_
  rintro i ⟨hi, hn⟩
  refine w_norm2 (by dsimp only [List.cons_append, List.nil_append]) (by dsimp only [List.cons_append, List.nil_append]) ?_
  try dsimp only at hi hn ⊢
  refine w_seq (w_region (zd rfl (op_lss rfl rfl) (wl_nil (st_tn (w_seq (w_cond_d rfl (fun hc12 => ?_) (fun hc12 => ?_)))))))
  · -- c12.t
    obtain ⟨y, hy⟩ := getE (l := l) (i := i) (by omega)
    have hlt := ltE hy
    have hdl : l.drop i = y :: l.drop (i + 1) := by rw [List.drop_eq_getElem_cons hlt]; congr 1; exact (List.getElem?_eq_some_iff.1 hy).2
    refine w_skip (st_tn (w_seq (w_block (w_seq (w_region (zm rfl (zd rfl (op_idx rfl rfl tS30ua (Sl.ent (by first | exact Sl.app (by assumption) _ | exact Sl.app (Sl.app (by assumption) _) _)) (by omega)) ?_)))))))
    refine zd rfl (op_ldx rfl tO3ua (by first | exact Sl.app (by assumption) _ | exact Sl.app (Sl.app (by assumption) _) _) (by assumption) (by rfl)) ?_
    refine za rfl (za rfl (wl_nil (st_tn (w_seq (w_seq (w_region (zm rfl (zm rfl (zd rfl (op_lenT rfl tS30ua (Sl.ent (by first | exact Sl.app (by assumption) _ | exact Sl.app (Sl.app (by assumption) _) _))) ?_)))))))))
    refine zd rfl (op_geq rfl rfl) (wl_nil (st_tn (w_cond_d rfl (fun hc19 => ?_) (fun hc19 => ?_))))
    · -- c19.t
      refine w_seq (w_region (za rfl (wl_nil (st_tn (w_ret (st_tr (st_br (st_tr (st_tr (st_br (st_tr (st_ret (vs := [_]) [] Try.results60 ⟨rfl, trivial⟩ rfl ?_))))))))))))
      refine ⟨_, rfl, ?_⟩
      rw [hn, hdl, (List.drop_eq_nil_of_le (show m.length ≤ i by omega) : m.drop i = [])]; exact ⟨rfl, rfl⟩
    · -- c19.f
      obtain ⟨z, hz⟩ := getE (l := m) (i := i) (by omega)
      have hlt2 := ltE hz
      have hdm : m.drop i = z :: m.drop (i + 1) := by rw [List.drop_eq_getElem_cons hlt2]; congr 1; exact (List.getElem?_eq_some_iff.1 hz).2
      refine w_skip (st_tn (w_seq (w_region (zm rfl (zm rfl (zd rfl (op_idx rfl rfl tS30ua (Sl.ent (by first | exact Sl.app (by assumption) _ | exact Sl.app (Sl.app (by assumption) _) _)) (by omega)) ?_))))))
      refine zd rfl (op_ldx rfl tO3ua (by first | exact Sl.app (by assumption) _ | exact Sl.app (Sl.app (by assumption) _) _) (by assumption) (by rfl)) ?_
      refine za rfl (wl_nil (st_tn (w_seq (w_region (zm rfl (zm rfl (zd rfl (op_fn Try.func74 rfl rfl rfl (compareI y z)) (za rfl (wl_nil (st_tn (w_seq (w_region (zm rfl ?_)))))))))))))
      refine zd rfl (op_neq rfl rfl) (wl_nil (st_tn (w_cond_d rfl (fun hc28 => ?_) (fun hc28 => ?_))))
      · -- c28.t
        refine w_seq (w_region (zm rfl (za rfl (wl_nil (st_tn (w_ret (st_br (st_tr (st_tr (st_br (st_tr (st_ret (vs := [_]) [] Try.results60 ⟨rfl, trivial⟩ rfl ?_))))))))))))
        refine ⟨_, rfl, ?_⟩
        rw [hn, hdl, hdm, cmpL]
        by_cases hyz : y < z
        · rw [if_pos hyz, if_pos hyz]; exact ⟨rfl, rfl⟩
        · by_cases hzy : y > z
          · rw [if_neg hyz, if_neg hyz, if_pos hzy, if_pos hzy]; exact ⟨rfl, rfl⟩
          · exact absurd (by rw [if_neg hyz, if_neg hzy]) hc28
      · -- c28.f
        refine w_skip (st_bn (st_tn (w_region (zd rfl (op_add' rfl rfl (by omega)) ?_))))
        refine zm rfl (wl_nil ?_)
        refine st_roundQ (x := i) (i + 1) [] rfl (rfl) (.cons rfl (.nil _)) (.cons rfl (.cons rfl (.cons rfl (.cons rfl (.nil _))))) (by
            try dsimp only
            refine ⟨by omega, ?_⟩; rw [hn, hdl, hdm, cmpL]; have hyz : y = z := by omega
            rw [if_neg (by omega), if_neg (by omega)]) (by
            try dsimp only
            omega)
  · -- c12.f
    refine w_exit (st_te ?_)
    refine st_te ?_
    refine st_be (st_tn (w_seq (w_seq (w_region (zm rfl (zd rfl (op_lenT rfl tS30ua (Sl.ent (by first | exact Sl.app (by assumption) _ | exact Sl.app (Sl.app (by assumption) _) _))) ?_))))))
    refine zm rfl (zd rfl (op_lenT rfl tS30ua (Sl.ent (by first | exact Sl.app (by assumption) _ | exact Sl.app (Sl.app (by assumption) _) _))) ?_)
    refine zd rfl (op_lss rfl rfl) (wl_nil (st_tn (w_cond_d rfl (fun hc35 => ?_) (fun hc35 => ?_))))
    · -- c35.t
      refine w_seq (w_region (za rfl (wl_nil (st_tn (w_ret (st_tr (st_ret (vs := [_]) [] Try.results60 ⟨rfl, trivial⟩ rfl ?_)))))))
      refine ⟨_, rfl, ?_⟩
      rw [hn, (List.drop_eq_nil_of_le (show l.length ≤ i by omega) : l.drop i = [])]
      rw [List.drop_eq_getElem_cons (l := m) (i := i) (by omega)]
      exact ⟨rfl, rfl⟩
    · -- c35.f
      refine w_skip (st_tn (w_seq (w_region (za rfl (wl_nil (st_tn (w_ret (st_ret (vs := [_]) [] Try.results60 ⟨rfl, trivial⟩ rfl ?_))))))))
      refine ⟨_, rfl, ?_⟩
      rw [hn, (List.drop_eq_nil_of_le (show l.length ≤ i by omega) : l.drop i = []), (List.drop_eq_nil_of_le (show m.length ≤ i by omega) : m.drop i = [])]; exact ⟨rfl, rfl⟩
set_option maxHeartbeats 400000 in
set_option maxRecDepth 100000 in
theorem cloneI {σ : World} {F : List Res} {a : Option Addr} {c : Nat} {rl : List Int} (lab : Nat) (h : Sl σ F SL.encZ 1 (.slice a rl.length c) rl) (hl : rl.length ≤ 1099511627776) :
    FnT Try.prog σ F 43 [.slice a rl.length c] [] (NewI rl lab) := by
  refine fn_of 8 Try.func43 rfl Try.ntmps43 rfl ?_
  have hle := h.i64
  refine w_seq (w_region (za rfl (wl_nil (st_tn (w_seq (w_seq (w_region (zm rfl (zd rfl (op_eqNil rfl tS30ua) (wl_nil (st_tn (w_cond rfl (fun hc4 => ?_) (fun hc4 => ?_)))))))))))))
  · -- c4.t
    obtain rfl : a = none := by simpa using hc4
    refine w_fact (Ent.app (Sl.nil_of h) _) (fun hnil => ?_)
    subst hnil
    refine w_emp 7 (slO_nil 3 1) ?_
    refine w_seq (w_region (za rfl (wl_nil (st_tn (w_ret (st_tr (st_ret (vs := [_]) [7] Try.results43 ⟨rfl, trivial⟩ rfl ?_)))))))
    refine ⟨[(lab, _)], rfl, ?_⟩
    exact ⟨none, 0, rfl, rfl⟩
  · -- c4.f
    refine w_skip (st_tn (w_seq (w_region (wl_op [] rfl rfl rfl rfl (op_lit0 (enc := SL.encZ) (lab := 5) tS30ua) ?_))))
    rintro _ _ ⟨a5, c5, rfl, rfl⟩
    refine zm rfl (wl_op [5] rfl rfl rfl rfl (op_append (lab := 5) (lab' := 7) rfl rfl tP30ua SL.enc1Z (by first | exact Sl.app (by assumption) _ | exact Sl.app (Sl.app (by assumption) _) _) (by first | omega | (simp; done) | (simp; omega) | (simp [*]; omega)) (by first | omega | (simp; done) | (simp; omega) | (simp [*]; omega))) ?_)
    rintro _ _ ⟨a7, c7, rfl, rfl⟩
    refine za rfl (wl_nil (st_tn (w_ret (st_ret (vs := [_]) [7] Try.results43 ⟨rfl, trivial⟩ rfl ?_))))
    refine ⟨[(lab, _)], rfl, ?_⟩
    exact ⟨a7, c7, rfl, rfl⟩
theorem sort_any {σ : World} {F : List Res} {l : List Int} {a : Option Addr} {c : Nat} (lab : Nat) (hl : l.length < 4611686018427387904) :
    FnT Try.prog σ F 69 [.slice a l.length c] [(lab, slW 3 SL.encZ 1 (.slice a l.length c) l)] (fun u ρ => u = .tuple #[] ∧ ρ = [(lab, slW 3 SL.encZ 1 (.slice a l.length c) (srt l))]) :=
  fn_sort (enc0 := Value.int .i64) (enc := SL.encZ) (fun _ => rfl) length_srt (fun g cap l w hH hg hl => Try.slices_Sort_int g 0 cap l w hH hg hl) (fun a cap w => Try.slices_Sort_int_none a cap w) lab hl
def lays21_ren : Go.Shelf.Ren := ⟨fun | 21 => 58 | 27 => 72 | 28 => 73 | 35 => 81 | 39 => 95 | n => n, fun | 22 => 30 | 3 => 3 | 4 => 4 | 0 => 0 | n => n, fun | n => n⟩
theorem lays21 : Go.Proofs.Lays2.n21 Try.prog lays21_ren := {
  mixed := by kernel_rfl
  f21 := Try.func58.trans (congrArg some (by kernel_rfl))
  f27 := Try.func72.trans (congrArg some (by kernel_rfl))
  f28 := Try.func73.trans (congrArg some (by kernel_rfl))
  f35 := Try.func81.trans (congrArg some (by kernel_rfl))
  f39 := Try.func95.trans (congrArg some (by kernel_rfl))
  t0 := Try.underlying0
  a0 := Try.isAgg0
  z0 := Try.sizeOf0
  v0 := Try.zeroValue0
  t3 := Try.underlying3
  a3 := Try.isAgg3
  z3 := Try.sizeOf3
  v3 := Try.zeroValue3
  t4 := Try.underlying4
  a4 := Try.isAgg4
  z4 := Try.sizeOf4
  v4 := Try.zeroValue4
  t22 := Try.underlying30
  a22 := Try.isAgg30
  z22 := Try.sizeOf30
  v22 := Try.zeroValue30
  i3 := by kernel_rfl }
theorem insertI {σ : World} {F : List Res} {a av : Option Addr} {c cv : Nat} {l : List Int} {x : Int} (i : Nat) (lab1 lab2 lab : Nat) (hi : i ≤ l.length) (hl : l.length ≤ 1099511627776) :
    FnT Try.prog σ F 58 [.slice a l.length c, .int .i64 i, .slice av 1 cv] [(lab1, slW 3 SL.encZ 1 (.slice a l.length c) l), (lab2, slW 3 SL.encZ 1 (.slice av 1 cv) [x])] (NewI (insA l i x) lab) :=
  fn_insert lays21 rfl i lab1 lab2 lab hi hl
theorem deleteI {σ : World} {F : List Res} {a : Option Addr} {c : Nat} {l : List Int} (lab lab' : Nat) (h1 : 1 ≤ l.length) (hl : l.length ≤ 1099511627776) :
    FnT Try.prog σ F 59 [.slice a l.length c, .int .i64 0, .int .i64 1] [(lab, slW 3 SL.encZ 1 (.slice a l.length c) l)] (NewI (l.drop 1) lab') := by
  intro w ho
  have ho : SL.Own σ (slW 3 SL.encZ 1 (.slice a l.length c) l :: F) w := ho
  obtain ⟨m, hm, hs⟩ := own_head ho
  obtain ⟨_, _, q1⟩ := Go.SL.ints_at hm hs
  rcases q1 with ⟨_, h, _⟩ | ⟨b, cur, rfl, rfl, hg, hlc, hcm, hcs, rest, hcur, hrl⟩
  · subst h; simp at h1
  · obtain ⟨hH, hc, hg⟩ := own_holds (enc0 := Value.int .i64) (enc := SL.encZ) (fun _ => rfl) ho
    have hcm2 : c ≤ 9223372036854775807 := by unfold maxLen at hcm; omega
    refine (Try.slices_Delete_int b 0 c 0 1 l w hH hc hcm2 (by omega) h1).mono ?_
    rintro e w' ⟨rfl, q, rfl⟩
    have hdl : (l.drop 1).length = l.length - 1 := List.length_drop ..
    refine ⟨_, _, rfl, ⟨some ⟨b, 0, none⟩, c, by rw [hdl], rfl⟩, ?_⟩
    have h2 := own_putRow (n := q) (os := #[]) (enc0 := Value.int .i64) (enc := SL.encZ) (l' := l.take 0 ++ l.drop 1 ++ List.replicate (1 - 0) 0) (fun _ => rfl) ho (by simp; omega) (l.drop 1).length (by simp)
    rw [Sort.grow_empty] at h2
    have e : (l.take 0 ++ l.drop 1 ++ List.replicate (1 - 0) (0 : Int)).take (l.drop 1).length = l.drop 1 := by
      rw [List.take_zero, List.nil_append]; exact List.take_left
    rw [e] at h2
    exact h2
end Go.Proofs.Ytecmigildpkigaa
namespace Go.Proofs.Ytecmigildpkigaa
open Go Go.SL Go.RowKit Go.SegP
set_option linter.unusedVariables false
set_option linter.unusedSimpArgs false
theorem tL99_1ub : zerosB Try.prog 99 30 1 1 = some [Value.slice none 0 0] := by kernel_rfl
theorem tO3ub : oneB Try.prog 3 = true := by kernel_rfl
theorem tP99ub : appB Try.prog 99 30 1 24 = true := by kernel_rfl
theorem tS30ub : sliceB Try.prog 30 3 1 = true := by kernel_rfl
abbrev HdV := Option Addr × Nat × Nat
def encHd (h : HdV) : List Value := [.slice h.1 h.2.1 h.2.2]
theorem enc1Hd : Enc1 encHd 1 := ⟨fun _ => rfl, fun a u h => by simp only [encHd, List.mem_singleton] at h; subst h; rfl⟩
theorem med_mem {l : List Int} (h : 1 ≤ l.length) : medZ l ∈ l := by
  unfold medZ
  have hl := length_srt l
  rw [List.getD_eq_getElem?_getD, List.getElem?_eq_getElem (by omega)]
  exact (srt_perm l).mem_iff.1 (List.getElem_mem _)
theorem dev_snoc {l : List Int} {i : Nat} {x m : Int} (h : l[i]? = some x) : devZ (l.take (i + 1)) m = devZ (l.take i) m + max (x - m) (m - x) := by
  rw [take_snocS h, dev_app]; simp [devZ]
theorem cuts_inc {n : Nat} {s : Nat} {l : List Int} {i : Nat} {x y : Int} (h : Cuts n s l) (hx : l[i]? = some x) (hy : l[i + 1]? = some y) : x < y := by
  induction l generalizing s i with
  | nil => simp at hx
  | cons z l ih =>
    cases i with
    | zero =>
      simp at hx hy
      subst hx
      have := (cuts_le h.2 y (List.mem_of_getElem? hy)).1
      have := h.1
      omega
    | succ i => exact ih h.2 (by simpa using hx) (by simpa using hy)
set_option maxHeartbeats 400000 in
set_option maxRecDepth 100000 in
theorem checkS {σ : World} {F : List Res} {a : Option Addr} {c : Nat} {pts : List Int} (pen : Int) (g : Sl σ F SL.encZ 1 (.slice a pts.length c) pts) (hb : PtsB pts) (h1 : 1 ≤ pts.length) (hp : 0 ≤ pen ∧ pen ≤ 1000) :
    FnT Try.prog σ F 34 [.slice a pts.length c, .int .i64 pen] [] (fun u ρ => u = .int .i64 0 ∧ ρ = []) := by
  refine fn_of 34 Try.func34 rfl Try.ntmps34 rfl ?_
  have hle := hb.len
  refine w_seq (w_region (za rfl (wl_nil (st_tn (w_seq (w_block (w_seq (w_region (zm rfl (zd rfl (op_lenT rfl tS30ub (Sl.ent (g.app _))) (zd rfl (op_val (v' := .bool false) (by rw [decide_eq_false (by omega)]) (op_eql rfl rfl)) ?_)))))))))))
  refine za rfl (wl_nil (st_tn (w_cond_f (rfl) ?_)))
  refine w_seq (w_region (zm rfl (zd rfl (op_lenT rfl tS30ub (Sl.ent (g.app _))) (zd rfl (op_val (v' := .bool false) (by rw [decide_eq_false (by omega)]) (op_gtr rfl rfl)) ?_))))
  refine za rfl (wl_nil (st_tn (w_cond_f (rfl) ?_)))
  refine w_skip (st_bn (st_tn (w_seq (w_seq (w_region (zm rfl (zd rfl (op_lenT rfl tS30ub (Sl.ent (g.app _))) (zm rfl (wl_nil (st_tn (w_block ?_)))))))))))
  refine w_loopQ (X := Nat) (fun z => z ≤ pts.length) (fun z => [(17, .int .i64 (z))]) (fun _ => []) (fun z => pts.length - z) (0) [(1, _), (15, _), (16, _)] [] [] rfl (rfl) (.cons rfl (.nil _)) (.cons rfl (.cons rfl (.cons rfl (.nil _)))) (by
      try dsimp only
      exact Nat.zero_le _) ?_
  rintro i hi
  refine w_norm2 (by dsimp only [List.cons_append, List.nil_append]) (by dsimp only [List.cons_append, List.nil_append]) ?_
  try dsimp only at hi ⊢
  refine w_seq (w_region (zd rfl (op_lss rfl rfl) (wl_nil (st_tn (w_seq (w_cond_d rfl (fun hc18 => ?_) (fun hc18 => ?_)))))))
  · -- c18.t
    obtain ⟨x, hx⟩ := getE (l := pts) (i := i) (by omega)
    have hxb := hb.val x (List.mem_of_getElem? hx)
    refine w_skip (st_tn (w_seq (w_block (w_seq (w_region (zd rfl (op_idx rfl rfl tS30ub (Sl.ent (g.app _)) (by omega)) ?_))))))
    refine zd rfl (op_ldx rfl tO3ub (g.app _) (by assumption) (by rfl)) ?_
    refine za rfl (wl_nil (st_tn (w_seq (w_region (zm rfl (zd rfl (op_val (v' := .bool false) (by rw [decide_eq_false (by omega)]) (op_lss rfl rfl)) ?_))))))
    refine zm rfl (wl_wanted_det rfl rfl rfl rfl rfl rfl rfl (op_move rfl) (wl_wanted_det rfl rfl rfl rfl rfl rfl rfl (op_val (v' := .bool false) (by rw [decide_eq_false (by omega)]) (op_gtr rfl rfl)) ?_))
    refine zd rfl (op_pick_f rfl rfl) (wl_nil (st_tn (w_cond_f (rfl) ?_)))
    refine w_skip (st_bn (st_tn (w_region (zd rfl (op_add' rfl rfl (by omega)) ?_))))
    refine zm rfl (wl_nil ?_)
    refine st_roundQ (x := i) (i + 1) [] rfl (rfl) (.cons rfl (.nil _)) (.cons rfl (.cons rfl (.cons rfl (.nil _)))) (by
        try dsimp only
        omega) (by
        try dsimp only
        omega)
  · -- c18.f
    refine w_exit (st_te ?_)
    refine st_te ?_
    refine st_be (st_tn (w_seq (w_seq (w_region (zm rfl (zd rfl (op_val (v' := .bool false) (by rw [decide_eq_false (by omega)]) (op_lss rfl rfl)) ?_))))))
    refine zm rfl (wl_wanted_det rfl rfl rfl rfl rfl rfl rfl (op_move rfl) (wl_wanted_det rfl rfl rfl rfl rfl rfl rfl (op_val (v' := .bool false) (by rw [decide_eq_false (by omega)]) (op_gtr rfl rfl)) ?_))
    refine zd rfl (op_pick_f rfl rfl) (wl_nil (st_tn (w_cond_f (rfl) ?_)))
    refine w_skip (st_tn (w_seq (w_region (za rfl (wl_nil (st_tn (w_ret (st_ret (vs := [_]) [] Try.results34 ⟨rfl, trivial⟩ rfl ?_))))))))
    refine ⟨_, rfl, ?_⟩
    exact ⟨rfl, rfl⟩
set_option maxHeartbeats 400000 in
set_option maxRecDepth 100000 in
theorem medianS {σ : World} {F : List Res} {a : Option Addr} {c : Nat} {l : List Int} (g : Sl σ F SL.encZ 1 (.slice a l.length c) l) (hl : l.length ≤ 100) (h1 : 1 ≤ l.length) :
    FnT Try.prog σ F 56 [.slice a l.length c] [] (fun u ρ => u = .int .i64 (medZ l) ∧ ρ = []) := by
  refine fn_of 15 Try.func56 rfl Try.ntmps56 rfl ?_
  have hsl := length_srt l
  obtain ⟨m, hm⟩ := getE (l := srt l) (i := (l.length - 1) / 2) (by omega)
  have hmz : medZ l = m := by unfold medZ; rw [List.getD_eq_getElem?_getD, hm]; rfl
  refine w_seq (w_region (za rfl (wl_nil (st_tn (w_seq (w_region (zm rfl (wl_op [] rfl rfl rfl rfl (op_fn Try.func43 rfl rfl rfl (cloneI 5 (by first | exact Sl.app (by assumption) _ | exact Sl.app (Sl.app (by assumption) _) _) (by omega))) ?_))))))))
  rintro _ _ ⟨a5, c5, rfl, rfl⟩
  refine za rfl (wl_nil (st_tn (w_seq (w_region (zm rfl (wl_op [5] rfl rfl rfl rfl (op_fn Try.func69 rfl rfl rfl (sort_any 5 (by omega))) ?_))))))
  rintro _ _ ⟨rfl, rfl⟩
  refine wl_nil (st_tn (w_seq (w_region (zm rfl (zm rfl (zd rfl (op_val (v' := .int .i64 ((l.length : Nat) : Int)) (by rw [hsl]) (op_lenT rfl tS30ub (Sl.ent (Sl.lab (l := srt l) 5 rfl (by unfold maxLen; omega))))) ?_))))))
  refine zd rfl (op_sub' rfl rfl (by omega)) ?_
  refine zd rfl (op_val (v' := .int .i64 (((l.length - 1) / 2 : Nat) : Int)) (by congr 1; omega) (op_quoN rfl rfl (by omega) (by omega) (by omega))) ?_
  refine zd rfl (op_idx rfl rfl tS30ub (Sl.ent (Sl.lab (l := srt l) 5 rfl (by unfold maxLen; omega))) (by omega)) ?_
  refine zd rfl (op_ldx rfl tO3ub (Sl.lab (l := srt l) 5 rfl (by unfold maxLen; omega)) hm (by rfl)) ?_
  refine za rfl (wl_nil (st_tn (w_ret (st_ret (vs := [_]) [] Try.results56 ⟨rfl, trivial⟩ rfl ?_))))
  refine ⟨_, rfl, ?_⟩
  rw [hmz]; exact ⟨rfl, rfl⟩
set_option maxHeartbeats 400000 in
set_option maxRecDepth 100000 in
theorem costS {σ : World} {F : List Res} {a : Option Addr} {c : Nat} {l : List Int} (g : Sl σ F SL.encZ 1 (.slice a l.length c) l) (hb : PtsB l) (h1 : 1 ≤ l.length) :
    FnT Try.prog σ F 39 [.slice a l.length c] [] (fun u ρ => u = .int .i64 (costZ l) ∧ ρ = []) := by
  refine fn_of 26 Try.func39 rfl Try.ntmps39 rfl ?_
  have hle := hb.len
  have hmb := hb.val _ (med_mem h1)
  obtain ⟨m, hm⟩ : ∃ m, m = medZ l := ⟨_, rfl⟩
  rw [← hm] at hmb
  refine w_seq (w_region (za rfl (wl_nil (st_tn (w_seq (w_region (zm rfl (zd rfl (op_fn Try.func56 rfl rfl rfl (fn_imp (medianS (g.app _) (by omega) h1) (fun u ρ hu => (by rw [← hm] at hu; exact hu : u = .int .i64 m ∧ ρ = [])))) ?_))))))))
  refine za rfl (za rfl (wl_nil (st_tn (w_seq (w_seq (w_region (zm rfl (zd rfl (op_lenT rfl tS30ub (Sl.ent (g.app _))) (zm rfl (wl_nil (st_tn (w_block ?_))))))))))))
  refine w_loopQ (X := Int × Nat) (fun z => z.2 ≤ l.length ∧ z.1 = devZ (l.take z.2) m ∧ 0 ≤ z.1 ∧ z.1 ≤ 2000 * z.2) (fun z => [(4, .int .i64 (z.1)), (11, .int .i64 (z.2))]) (fun _ => []) (fun z => l.length - z.2) ((0, 0)) [(3, _), (9, _), (10, _)] [] [] rfl (rfl) (.cons rfl (.cons rfl (.nil _))) (.cons rfl (.cons rfl (.cons rfl (.nil _)))) (by
      try dsimp only
      exact ⟨Nat.zero_le _, rfl, Int.le_refl _, by omega⟩) ?_
  rintro ⟨sm, i⟩ ⟨hi, hs, hs1, hs2⟩
  refine w_norm2 (by dsimp only [List.cons_append, List.nil_append]) (by dsimp only [List.cons_append, List.nil_append]) ?_
  try dsimp only at hi hs hs1 hs2 ⊢
  refine w_seq (w_region (zd rfl (op_lss rfl rfl) (wl_nil (st_tn (w_seq (w_cond_d rfl (fun hc12 => ?_) (fun hc12 => ?_)))))))
  · -- c12.t
    obtain ⟨x, hx⟩ := getE (l := l) (i := i) (by omega)
    have hxb := hb.val x (List.mem_of_getElem? hx)
    refine w_skip (st_tn (w_seq (w_block (w_seq (w_region (zd rfl (op_idx rfl rfl tS30ub (Sl.ent (g.app _)) (by omega)) ?_))))))
    refine zd rfl (op_ldx rfl tO3ub (g.app _) (by assumption) (by rfl)) ?_
    refine za rfl (wl_nil (st_tn (w_region (zm rfl (zm rfl (zm rfl (zd rfl (op_sub' rfl rfl (by omega)) ?_)))))))
    refine zm rfl (zm rfl (zd rfl (op_sub' rfl rfl (by omega)) ?_))
    refine zd rfl (op_max rfl rfl) (zd rfl (op_add' rfl rfl (by omega)) ?_)
    refine za rfl (wl_nil (st_bn (st_tn (w_region (zd rfl (op_add' rfl rfl (by omega)) ?_)))))
    refine zm rfl (wl_nil ?_)
    refine st_roundQ (x := (sm, i)) ((sm + max (x - m) (m - x), i + 1)) [] rfl (rfl) (.cons rfl (.cons rfl (.nil _))) (.cons rfl (.cons rfl (.cons rfl (.nil _)))) (by
        try dsimp only
        exact ⟨by omega, by rw [dev_snoc hx, ← hs], by omega, by omega⟩) (by
        try dsimp only
        omega)
  · -- c12.f
    refine w_exit (st_te ?_)
    refine st_te ?_
    refine st_be (st_tn (w_seq (w_region (zm rfl (za rfl (wl_nil (st_tn (w_ret (st_ret (vs := [_]) [] Try.results39 ⟨rfl, trivial⟩ rfl ?_)))))))))
    refine ⟨_, rfl, ?_⟩
    have hit : l.take i = l := take_allS (by omega)
    rw [hit] at hs
    unfold costZ
    rw [← hm, ← hs]; exact ⟨rfl, rfl⟩
set_option maxHeartbeats 600000 in
set_option maxRecDepth 100000 in
theorem checkCutsS {σ : World} {F : List Res} {a b : Option Addr} {c d : Nat} {pts cuts : List Int} (g : Sl σ F SL.encZ 1 (.slice a pts.length c) pts) (gc : Sl σ F SL.encZ 1 (.slice b cuts.length d) cuts) (hc : Cuts pts.length 0 cuts) :
    FnT Try.prog σ F 37 [.slice a pts.length c, .slice b cuts.length d] [] (fun u ρ => u = .int .i64 0 ∧ ρ = []) := by
  refine fn_of 34 Try.func37 rfl Try.ntmps37 rfl ?_
  have hle := g.i64
  have hle2 := gc.i64
  refine w_seq (w_region (za rfl (wl_nil (st_tn (w_seq (w_seq (w_region (zm rfl (zd rfl (op_lenT rfl tS30ub (Sl.ent (gc.app _))) (zm rfl (wl_nil (st_tn (w_block ?_)))))))))))))
  refine w_loopQ (X := Nat) (fun z => z ≤ cuts.length) (fun z => [(9, .int .i64 (z))]) (fun _ => []) (fun z => cuts.length - z) (0) [(0, _), (1, _), (7, _), (8, _)] [] [] rfl (rfl) (.cons rfl (.nil _)) (.cons rfl (.cons rfl (.cons rfl (.cons rfl (.nil _))))) (by
      try dsimp only
      exact Nat.zero_le _) ?_
  rintro i hi
  refine w_norm2 (by dsimp only [List.cons_append, List.nil_append]) (by dsimp only [List.cons_append, List.nil_append]) ?_
  try dsimp only at hi ⊢
  refine w_seq (w_region (zd rfl (op_lss rfl rfl) (wl_nil (st_tn (w_seq (w_cond_d rfl (fun hc10 => ?_) (fun hc10 => ?_)))))))
  · -- c10.t
    obtain ⟨x, hx⟩ := getE (l := cuts) (i := i) (by omega)
    have hxb := cuts_le hc x (List.mem_of_getElem? hx)
    refine w_skip (st_tn (w_seq (w_block (w_seq (w_region (zm rfl (zd rfl (op_idx rfl rfl tS30ub (Sl.ent (gc.app _)) (by omega)) ?_)))))))
    refine zd rfl (op_ldx rfl tO3ub (gc.app _) (by assumption) (by rfl)) ?_
    refine za rfl (za rfl (wl_nil (st_tn (w_seq (w_seq (w_region (zm rfl (zd rfl (op_val (v' := .bool false) (by rw [decide_eq_false (by omega)]) (op_lss rfl rfl)) ?_))))))))
    refine zm rfl (wl_wanted_det rfl rfl rfl rfl rfl rfl rfl (op_move rfl) (wl_wanted_det rfl rfl rfl rfl rfl rfl rfl (op_move rfl) (wl_wanted_det rfl rfl rfl rfl rfl rfl rfl (op_lenT rfl tS30ub (Sl.ent (g.app _))) (wl_wanted_det rfl rfl rfl rfl rfl rfl rfl (op_val (v' := .bool false) (by rw [decide_eq_false (by omega)]) (op_geq rfl rfl)) ?_))))
    refine zd rfl (op_pick_f rfl rfl) (wl_nil (st_tn (w_cond_f (rfl) ?_)))
    refine w_skip (st_tn (w_seq (w_region (zm rfl (zd rfl (op_gtr rfl rfl) (zm rfl (wl_gsplit (t := 24) rfl (fun hg24 => ?_) (fun hg24 => ?_))))))))
    · -- 24 is True
      obtain ⟨y, hy⟩ := getE (l := cuts) (i := ((i : Int) - 1).toNat) (by omega)
      have hyx := cuts_inc hc hy (by rw [show ((i : Int) - 1).toNat + 1 = i by omega]; exact hx)
      refine wl_wanted_det rfl rfl rfl rfl rfl rfl rfl (op_move rfl) (wl_wanted_det rfl rfl rfl rfl rfl rfl rfl (op_move rfl) (wl_wanted_det rfl rfl rfl rfl rfl rfl rfl (op_move rfl) (wl_wanted_det rfl rfl rfl rfl rfl rfl rfl (op_sub' rfl rfl (by omega)) ?_)))
      refine wl_wanted_det rfl rfl rfl rfl rfl rfl rfl (op_idxZ rfl rfl tS30ub (Sl.ent (gc.app _)) (by omega) (by omega)) ?_
      refine wl_wanted_det rfl rfl rfl rfl rfl rfl rfl (op_ldx rfl tO3ub (gc.app _) (by assumption) (by rfl)) ?_
      refine wl_wanted_det rfl rfl rfl rfl rfl rfl rfl (op_val (v' := .bool false) (by rw [decide_eq_false (by omega)]) (op_leq rfl rfl)) ?_
      refine zd rfl (op_pick_t rfl rfl) (wl_nil (st_tn (w_cond_f (rfl) ?_)))
      refine w_skip (st_bn (st_tn (w_region (zd rfl (op_add' rfl rfl (by omega)) ?_))))
      refine zm rfl (wl_nil ?_)
      refine st_roundQ (x := i) (i + 1) [] rfl (rfl) (.cons rfl (.nil _)) (.cons rfl (.cons rfl (.cons rfl (.cons rfl (.nil _))))) (by
          try dsimp only
          omega) (by
          try dsimp only
          omega)
    · -- 24 is False
      refine wl_unwanted rfl rfl rfl rfl rfl rfl rfl rfl (wl_unwanted rfl rfl rfl rfl rfl rfl rfl rfl (wl_unwanted rfl rfl rfl rfl rfl rfl rfl rfl (wl_unwanted rfl rfl rfl rfl rfl rfl rfl rfl (wl_unwanted rfl rfl rfl rfl rfl rfl rfl rfl (wl_unwanted rfl rfl rfl rfl rfl rfl rfl rfl (wl_unwanted rfl rfl rfl rfl rfl rfl rfl rfl (zd rfl (op_pick_f rfl rfl) (wl_nil (st_tn (w_cond_f (rfl) ?_))))))))))
      refine w_skip (st_bn (st_tn (w_region (zd rfl (op_add' rfl rfl (by omega)) ?_))))
      refine zm rfl (wl_nil ?_)
      refine st_roundQ (x := i) (i + 1) [] rfl (rfl) (.cons rfl (.nil _)) (.cons rfl (.cons rfl (.cons rfl (.cons rfl (.nil _))))) (by
          try dsimp only
          omega) (by
          try dsimp only
          omega)
  · -- c10.f
    refine w_exit (st_te ?_)
    refine st_te ?_
    refine st_be (st_tn (w_seq (w_region (za rfl (wl_nil (st_tn (w_ret (st_ret (vs := [_]) [] Try.results37 ⟨rfl, trivial⟩ rfl ?_))))))))
    refine ⟨_, rfl, ?_⟩
    exact ⟨rfl, rfl⟩
def prt (n : Nat) : Nat → List Int → List (Nat × Nat)
  | s, [] => [(s, n)]
  | s, c :: cs => (s, c.toNat) :: prt n c.toNat cs
def hdr (a : Option Addr) (c : Nat) (p : Nat × Nat) : HdV := (SL.sub a c p.1 1, p.2 - p.1, c - p.1)
theorem prt_sum (C : Nat → Nat → Int) (n : Nat) : ∀ (s : Nat) (l : List Int), ((prt n s l).map fun p => C p.1 p.2).sum = sgs C n s l
  | s, [] => by simp [prt, sgs]
  | s, c :: cs => by
    have ih := prt_sum C n c.toNat cs
    unfold prt sgs
    rw [List.map_cons, List.sum_cons, ih]
theorem prt_len (n : Nat) : ∀ (s : Nat) (l : List Int), (prt n s l).length = l.length + 1
  | s, [] => rfl
  | s, c :: cs => by rw [prt, List.length_cons, prt_len n c.toNat cs]; rfl
theorem prt_bd {n : Nat} : ∀ {s : Nat} {l : List Int}, Cuts n s l → ∀ p ∈ prt n s l, p.1 < p.2 ∧ p.2 ≤ n
  | s, [], h, p, hp => by
    simp only [prt, List.mem_singleton] at hp; subst hp
    exact ⟨h, Nat.le_refl _⟩
  | s, c :: cs, h, p, hp => by
    rw [prt] at hp
    rcases List.mem_cons.1 hp with rfl | hp
    · have := h.1; have := cuts_lt h.2; dsimp only; omega
    · exact prt_bd h.2 p hp
def prtN (l : List Int) : Nat → List (Nat × Nat) × Nat
  | 0 => ([], 0)
  | i + 1 => match l[i]? with
    | some x => ((prtN l i).1 ++ [((prtN l i).2, x.toNat)], x.toNat)
    | none => prtN l i
theorem prtN_succ {l : List Int} {i : Nat} {x : Int} (h : l[i]? = some x) : prtN l (i + 1) = ((prtN l i).1 ++ [((prtN l i).2, x.toNat)], x.toNat) := by rw [prtN, h]
theorem prtN_all (n : Nat) (l : List Int) : ∀ i, i ≤ l.length → (prtN l i).1 ++ prt n (prtN l i).2 (l.drop i) = prt n 0 l
  | 0, _ => by simp [prtN]
  | i + 1, h => by
    have ih := prtN_all n l i (by omega)
    have hx : l[i]? = some l[i] := List.getElem?_eq_getElem (by omega)
    rw [prtN_succ hx, ← ih, List.drop_eq_getElem_cons (l := l) (i := i) (by omega), prt]
    simp
theorem prtN_len (l : List Int) : ∀ i, (prtN l i).1.length ≤ i
  | 0 => by simp [prtN]
  | i + 1 => by
    have ih := prtN_len l i
    rw [prtN]
    split
    · rw [List.length_append, List.length_singleton]; omega
    · omega
set_option maxHeartbeats 800000 in
set_option maxRecDepth 100000 in
theorem partsS {σ : World} {F : List Res} {a b : Option Addr} {c d : Nat} {pts cuts : List Int} (lab : Nat) (g : Sl σ F SL.encZ 1 (.slice a pts.length c) pts) (gc : Sl σ F SL.encZ 1 (.slice b cuts.length d) cuts) (hc : Cuts pts.length 0 cuts) (hl : pts.length ≤ 100) :
    FnT Try.prog σ F 38 [.slice a pts.length c, .slice b cuts.length d] [] (fun u ρ => ∃ (a' : Option Addr) (c' : Nat), u = .slice a' ((prt pts.length 0 cuts).map (hdr a c)).length c' ∧ ρ = [(lab, slW 30 encHd 1 (.slice a' ((prt pts.length 0 cuts).map (hdr a c)).length c') ((prt pts.length 0 cuts).map (hdr a c)))]) := by
  refine fn_of 30 Try.func38 rfl Try.ntmps38 rfl ?_
  have hle2 := gc.i64
  have hcl := cuts_len hc
  refine w_seq (w_region (za rfl (wl_nil (st_tn (w_seq (w_region (za rfl (wl_nil (st_tn (w_seq (w_region (za rfl (wl_nil ?_)))))))))))))
  refine st_tn (w_seq (w_seq (w_region (zm rfl (zd rfl (op_lenT rfl tS30ub (Sl.ent (gc.app _))) (zm rfl (wl_nil (st_tn (w_block (w_emp 5 (slO_nil 30 1) ?_))))))))))
  refine w_loopQ (X := List HdV × Option Addr × Nat × Nat × Nat) (fun z => z.2.2.2.2 ≤ cuts.length ∧ z.1 = (prtN cuts z.2.2.2.2).1.map (hdr a c) ∧ z.2.2.2.1 = (prtN cuts z.2.2.2.2).2 ∧ z.2.2.2.1 ≤ pts.length ∧ (z.2.2.2.2 < cuts.length → ∀ x, cuts[z.2.2.2.2]? = some x → (z.2.2.2.1 : Int) < x)) (fun z => [(5, .slice (z.2.1) (z.1).length (z.2.2.1)), (6, .int .i64 (z.2.2.2.1)), (11, .int .i64 (z.2.2.2.2))]) (fun z => [(5, slW 30 encHd 1 (.slice (z.2.1) (z.1).length (z.2.2.1)) (z.1))]) (fun z => cuts.length - z.2.2.2.2) (([], none, 0, 0, 0)) [(0, _), (9, _), (10, _)] [] [5] rfl (rfl) (.cons rfl (.cons rfl (.cons rfl (.nil _)))) (.cons rfl (.cons rfl (.cons rfl (.nil _)))) (by
      try dsimp only
      exact ⟨Nat.zero_le _, rfl, rfl, Nat.zero_le _, fun _ x hx => (cuts_le hc x (List.mem_of_getElem? hx)).1⟩) ?_
  rintro ⟨out, a_out, c_out, s, i⟩ ⟨hi, ho, hs, hsn, hsx⟩
  refine w_norm2 (by dsimp only [List.cons_append, List.nil_append]) (by dsimp only [List.cons_append, List.nil_append]) ?_
  try dsimp only at hi ho hs hsn hsx ⊢
  refine w_seq (w_region (zd rfl (op_lss rfl rfl) (wl_nil (st_tn (w_seq (w_cond_d rfl (fun hc12 => ?_) (fun hc12 => ?_)))))))
  · -- c12.t
    obtain ⟨x, hx⟩ := getE (l := cuts) (i := i) (by omega)
    have hxb := cuts_le hc x (List.mem_of_getElem? hx)
    have hsx2 := hsx (by omega) x hx
    have hol : out.length ≤ i := by rw [ho, List.length_map]; exact prtN_len cuts i
    refine w_skip (st_tn (w_seq (w_block (w_seq (w_region (zd rfl (op_idx rfl rfl tS30ub (Sl.ent (gc.app _)) (by omega)) ?_))))))
    refine zd rfl (op_val (v' := .int .i64 ((x.toNat : Nat) : Int)) (show Value.int .i64 x = .int .i64 ((x.toNat : Nat) : Int) by congr 1; omega) (op_ldx rfl tO3ub (gc.app _) hx (by rfl))) ?_
    refine za rfl (wl_nil (st_tn (w_seq (w_region (zm rfl (zm rfl (zm rfl (zm rfl (zd rfl (op_slice rfl rfl rfl tS30ub (g.app _) (by omega) (by omega)) ?_)))))))))
    refine wl_op [] rfl rfl rfl rfl (op_buildSlice (enc := encHd) (l := [(SL.sub a c s 1, x.toNat - s, c - s)]) (lab := 20) tL99_1ub rfl rfl (fun _ => rfl) rfl) ?_
    rintro _ _ ⟨a20, c20, rfl, rfl⟩
    refine wl_op [5] rfl rfl rfl rfl (op_append (lab := 5) (lab' := 21) rfl rfl tP99ub enc1Hd (Sl.lab 20 rfl (by simp [maxLen])) (by first | omega | (simp; done) | (simp; omega) | (simp [*]; omega)) (by first | omega | (simp; done) | (simp; omega) | (simp [*]; omega))) ?_
    rintro _ _ ⟨a21, c21, rfl, rfl⟩
    refine za rfl (wl_nil (st_tn (w_region (zm rfl (za rfl (wl_nil (st_bn (st_tn (w_region (zd rfl (op_add' rfl rfl (by omega)) ?_))))))))))
    refine zm rfl (wl_nil ?_)
    refine st_roundQ (x := (out, a_out, c_out, s, i)) ((_, _, _, x.toNat, i + 1)) [21] rfl (rfl) (.cons rfl (.cons rfl (.cons rfl (.nil _)))) (.cons rfl (.cons rfl (.cons rfl (.nil _)))) (by
        try dsimp only
        refine ⟨by omega, by rw [prtN_succ hx, List.map_append, ← ho, ← hs]; rfl, by rw [prtN_succ hx], by omega, fun hlt y hy => ?_⟩; have := cuts_inc hc hx hy; omega) (by
        try dsimp only
        omega)
  · -- c12.f
    refine w_exit (st_te ?_)
    refine st_te ?_
    refine st_be (st_tn (w_seq ?_))
    have hol : out.length ≤ i := by rw [ho, List.length_map]; exact prtN_len cuts i
    have hfin : out ++ [(SL.sub a c s 1, pts.length - s, c - s)] = (prt pts.length 0 cuts).map (hdr a c) := by
      have h9 := prtN_all pts.length cuts i hi
      rw [List.drop_eq_nil_of_le (show cuts.length ≤ i by omega), prt] at h9
      rw [← h9, List.map_append, ← ho, ← hs]; rfl
    refine w_region (zm rfl (zm rfl (zm rfl (zd rfl (op_sliceL rfl rfl tS30ub (g.app _) (by omega)) ?_))))
    refine wl_op [] rfl rfl rfl rfl (op_buildSlice (enc := encHd) (l := [(SL.sub a c s 1, pts.length - s, c - s)]) (lab := 28) tL99_1ub rfl rfl (fun _ => rfl) rfl) ?_
    rintro _ _ ⟨a28, c28, rfl, rfl⟩
    refine wl_op [5] rfl rfl rfl rfl (op_append (lab := 5) (lab' := 29) rfl rfl tP99ub enc1Hd (Sl.lab 28 rfl (by simp [maxLen])) (by first | omega | (simp; done) | (simp; omega) | (simp [*]; omega)) (by first | omega | (simp; done) | (simp; omega) | (simp [*]; omega))) ?_
    rintro _ _ ⟨a29, c29, rfl, rfl⟩
    refine za rfl (wl_nil (st_tn (w_ret (st_ret (vs := [_]) [29] Try.results38 ⟨rfl, trivial⟩ rfl ?_))))
    refine ⟨[(lab, _)], rfl, ?_⟩
    rw [← hfin]; exact ⟨_, _, rfl, rfl⟩
end Go.Proofs.Ytecmigildpkigaa
namespace Go.Proofs.Ytecmigildpkigaa
open Go Go.SL Go.RowKit Go.SegP
set_option linter.unusedVariables false
set_option linter.unusedSimpArgs false
theorem tL30_1uc : zerosB Try.prog 30 3 1 1 = some [Value.int .i64 0] := by kernel_rfl
theorem tM30uc : makeB Try.prog 30 3 8 = some (Value.int .i64 0) := by kernel_rfl
theorem tO3uc : oneB Try.prog 3 = true := by kernel_rfl
theorem tP30uc : appB Try.prog 30 3 1 8 = true := by kernel_rfl
theorem tS30uc : sliceB Try.prog 30 3 1 = true := by kernel_rfl
theorem halves_nil : Halves [] [] [] := ⟨by simp, by simp, by simp, by simp⟩
theorem part_nil (pts : List Int) (t : Nat) : (pts.take t).drop t = [] := by apply List.drop_eq_nil_of_le; rw [List.length_take]; omega
theorem halves_bd {pts low high : List Int} {s t : Nat} (hb : PtsB pts) (h : Halves ((pts.take t).drop s) low high) : (∀ x ∈ low, -1000 ≤ x ∧ x ≤ 1000) ∧ (∀ x ∈ high, -1000 ≤ x ∧ x ≤ 1000) ∧ low.length + high.length ≤ 100 := by
  have hm : ∀ x, x ∈ low ++ high → -1000 ≤ x ∧ x ≤ 1000 := fun x hx => hb.val x (List.mem_of_mem_take (List.mem_of_mem_drop (h.perm.mem_iff.1 hx)))
  refine ⟨fun x hx => hm x (List.mem_append_left _ hx), fun x hx => hm x (List.mem_append_right _ hx), ?_⟩
  have h1 := h.perm.length_eq
  rw [List.length_append] at h1
  have := hb.len
  rw [h1, List.length_drop, List.length_take]; omega
abbrev LI := List Int
theorem sub_zeroS (a : Option Addr) (c k : Nat) : SL.sub a c 0 k = a := by
  unfold SL.sub
  split
  · rfl
  · cases a with
    | none => rfl
    | some p => simp [add0]
theorem fin_facts {pts LOW HIGH : List Int} {j t : Nat} (hb : PtsB pts) (hF : Halves ((pts.take t).drop j) LOW HIGH) (hj : j < t) (ht : t ≤ pts.length) :
    ∃ m, LOW[LOW.length - 1]? = some m ∧ segC pts j t = m * LOW.length - LOW.sum + HIGH.sum - m * HIGH.length ∧ (0 < LOW.length ∧ LOW.length + HIGH.length ≤ 100) ∧ (-200000 ≤ m * (LOW.length : Int) ∧ m * (LOW.length : Int) ≤ 200000) ∧ (-200000 ≤ m * (HIGH.length : Int) ∧ m * (HIGH.length : Int) ≤ 200000) ∧ (-200000 ≤ LOW.sum ∧ LOW.sum ≤ 200000) ∧ (-200000 ≤ HIGH.sum ∧ HIGH.sum ≤ 200000) := by
  obtain ⟨h1, h2, h3⟩ := halves_bd hb hF
  have hl := hF.perm.length_eq
  rw [List.length_append, List.length_drop, List.length_take] at hl
  have l1 := hF.l1
  obtain ⟨m, hm⟩ := getE (l := LOW) (i := LOW.length - 1) (by omega)
  have hmb := h1 m (List.mem_of_getElem? hm)
  have s1 := sum_bd h1
  have s2 := sum_bd h2
  exact ⟨m, hm, halves_cost hF hm, ⟨by omega, h3⟩, mul_bd hmb (by omega), mul_bd hmb (by omega), by omega, by omega⟩
set_option maxHeartbeats 4000000 in
set_option maxRecDepth 100000 in
theorem costsS {σ : World} {F : List Res} {a : Option Addr} {c : Nat} {pts : List Int} {t : Nat} (lab : Nat) (g : Sl σ F SL.encZ 1 (.slice a pts.length c) pts) (hb : PtsB pts) (ht : t ≤ pts.length) :
    FnT Try.prog σ F 40 [.slice a pts.length c, .int .i64 t] [] (NewI (costsL pts t) lab) := by
  refine fn_of 142 Try.func40 rfl Try.ntmps40 rfl ?_
  have hle := hb.len
  have hcl := costs_len pts t
  refine w_seq (w_region (za rfl (wl_nil (st_tn (w_seq (w_region (zm rfl (wl_op [] rfl rfl rfl rfl (op_makeSlice (enc := SL.encZ) (a0 := 0) (lab := 20) rfl rfl tM30uc (fun _ => rfl) rfl rfl (by omega) (by unfold maxLen; omega)) ?_))))))))
  rintro _ _ ⟨a20, c20, rfl, rfl⟩
  refine za rfl (wl_nil (st_tn (w_seq (w_region (za rfl (za rfl (wl_nil (st_tn (w_seq (w_region (za rfl (za rfl (wl_nil ?_)))))))))))))
  refine st_tn (w_seq (w_seq (w_region (zm rfl (zd rfl (op_sub' rfl rfl (by omega)) ?_)))))
  refine za rfl (wl_nil (st_tn (w_block (w_emp 6 (slO_nil 3 1) ?_))))
  refine w_emp 7 (slO_nil 3 1) ?_
  refine w_loopQ (X := Nat × LI × List Int × Option Addr × Nat × List Int × Option Addr × Nat × Int × Int) (fun z => (z.1 ≤ t ∧ z.2.1 = List.replicate z.1 0 ++ (costsL pts t).drop z.1) ∧ Halves ((pts.take t).drop z.1) z.2.2.1 z.2.2.2.2.2.1 ∧ z.2.2.2.2.2.2.2.2.1 = z.2.2.1.sum ∧ z.2.2.2.2.2.2.2.2.2 = z.2.2.2.2.2.1.sum) (fun z => [(6, .slice (z.2.2.2.1) (z.2.2.1).length (z.2.2.2.2.1)), (7, .slice (z.2.2.2.2.2.2.1) (z.2.2.2.2.2.1).length (z.2.2.2.2.2.2.2.1)), (8, .int .i64 (z.2.2.2.2.2.2.2.2.1)), (9, .int .i64 (z.2.2.2.2.2.2.2.2.2)), (10, .int .i64 (((z.1) : Int) - 1))]) (fun z => [(6, slW 3 SL.encZ 1 (.slice (z.2.2.2.1) (z.2.2.1).length (z.2.2.2.2.1)) (z.2.2.1)), (7, slW 3 SL.encZ 1 (.slice (z.2.2.2.2.2.2.1) (z.2.2.2.2.2.1).length (z.2.2.2.2.2.2.2.1)) (z.2.2.2.2.2.1)), (20, slW 3 SL.encZ 1 (.slice a20 (List.replicate t (0 : Int)).length c20) (z.2.1))]) (fun z => z.1) ((t, List.replicate t 0, [], none, 0, [], none, 0, 0, 0)) [(0, _), (5, _)] [] [6, 7, 20] rfl (rfl) (.cons rfl (.cons rfl (.cons rfl (.cons rfl (.cons rfl (.nil _)))))) (.cons rfl (.cons rfl (.nil _))) (by
      try dsimp only
      exact ⟨⟨Nat.le_refl _, by rw [List.drop_eq_nil_of_le (by omega)]; simp⟩, by rw [part_nil]; exact halves_nil, rfl, rfl⟩) ?_
  rintro ⟨i, out, low, a_low, c_low, high, a_high, c_high, sl, sh⟩ ⟨⟨hi, ho⟩, hh, hsl, hsh⟩
  refine w_norm2 (by dsimp only [List.cons_append, List.nil_append]) (by dsimp only [List.cons_append, List.nil_append]) ?_
  try dsimp only at hi ho hh hsl hsh ⊢
  refine w_seq (w_seq (w_region (zm rfl (zd rfl (op_geq rfl rfl) (wl_nil (st_tn (w_cond_d rfl (fun hc24 => ?_) (fun hc24 => ?_))))))))
  · -- c24.t
    refine Exists.elim (⟨i - 1, by omega⟩ : ∃ j, j + 1 = i) (fun j hj => ?_)
    subst hj
    refine Exists.elim (getE (l := pts) (i := j) (by omega)) (fun x hx => ?_)
    have hxb := hb.val x (List.mem_of_getElem? hx)
    obtain ⟨hbl, hbh, hlen⟩ := halves_bd hb hh
    have h1 := hh.l1
    have h2 := hh.l2
    have s1 := sum_bd hbl
    have s2 := sum_bd hbh
    have hpc := seg_cons pts hx (show j < t by omega)
    have hol : out.length = t := by rw [ho, List.length_append, List.length_replicate, List.length_drop, hcl]; omega
    have hold : out[j]? = some 0 := by rw [ho, List.getElem?_append_left (by rw [List.length_replicate]; omega), List.getElem?_replicate, if_pos (by omega)]
    obtain ⟨p1, p2, p3⟩ := List.pairwise_append.1 hh.sorted
    refine w_skip (st_tn (w_seq (w_block (w_seq (w_region (zm rfl (zd rfl (op_val (v' := .int .i64 ((j : Nat) : Int)) (by rw [show ((j : Nat) : Int) = ((j + 1 : Nat) : Int) - 1 by omega]) (op_move rfl)) ?_)))))))
    refine zd rfl (op_idx rfl rfl tS30uc (Sl.ent (g.app _)) (by omega)) ?_
    refine zd rfl (op_ldx rfl tO3uc (g.app _) hx (by rfl)) ?_
    refine za rfl (wl_nil (st_tn (w_seq (w_seq (w_cutL [(43, .bool (decide (0 < low.length ∧ low.getD (low.length - 1) 0 < x)))] [0, 5, 6, 7, 8, 9, 10, 11] [6, 7, 20] rfl (fun K' hK => ?_) ?_)))))
    · -- cut r8
      refine w_region (zm rfl (zd rfl (op_lenT rfl tS30uc (Sl.ent (Sl.lab 6 rfl (by first | (unfold maxLen; omega) | (rw [List.length_replicate]; unfold maxLen; omega))))) ?_))
      refine zd rfl (op_gtr rfl rfl) (zm rfl (wl_gsplit (t := 34) rfl (fun hg34 => ?_) (fun hg34 => ?_)))
      · -- 34 is True
        obtain ⟨m, hm⟩ := getE (l := low) (i := low.length - 1) (by omega)
        have hgd : low.getD (low.length - 1) 0 = m := by rw [List.getD_eq_getElem?_getD, hm]; rfl
        refine wl_wanted_det rfl rfl rfl rfl rfl rfl rfl (op_move rfl) (wl_wanted_det rfl rfl rfl rfl rfl rfl rfl (op_move rfl) (wl_wanted_det rfl rfl rfl rfl rfl rfl rfl (op_move rfl) (wl_wanted_det rfl rfl rfl rfl rfl rfl rfl (op_lenT rfl tS30uc (Sl.ent (Sl.lab 6 rfl (by first | (unfold maxLen; omega) | (rw [List.length_replicate]; unfold maxLen; omega))))) ?_)))
        refine wl_wanted_det rfl rfl rfl rfl rfl rfl rfl (op_val (v' := .int .i64 ((low.length - 1 : Nat) : Int)) (by rw [show ((low.length - 1 : Nat) : Int) = (low.length : Int) - 1 by omega]) (op_sub' rfl rfl (by omega))) ?_
        refine wl_wanted_det rfl rfl rfl rfl rfl rfl rfl (op_idx rfl rfl tS30uc (Sl.ent (Sl.lab 6 rfl (by first | (unfold maxLen; omega) | (rw [List.length_replicate]; unfold maxLen; omega)))) (by omega)) ?_
        refine wl_wanted_det rfl rfl rfl rfl rfl rfl rfl (op_ldx rfl tO3uc (Sl.lab 6 rfl (by first | (unfold maxLen; omega) | (rw [List.length_replicate]; unfold maxLen; omega))) (by assumption) (by rfl)) ?_
        refine wl_wanted_det rfl rfl rfl rfl rfl rfl rfl (op_gtr rfl rfl) (zd rfl (op_pick_t rfl rfl) (wl_nil (st_tn ?_)))
        exact cut_done1 [6, 7, 20] hK rfl (by first | (rw [decide_eq_decide]; omega) | (symm; rw [decide_eq_false_iff_not]; omega) | (symm; rw [decide_eq_true_iff]; omega) | (simp; done) | (simp; omega) | (simp [*]; done) | (simp [*]; omega)) (by rfl) rfl rfl
      · -- 34 is False
        refine wl_unwanted rfl rfl rfl rfl rfl rfl rfl rfl (wl_unwanted rfl rfl rfl rfl rfl rfl rfl rfl (wl_unwanted rfl rfl rfl rfl rfl rfl rfl rfl (wl_unwanted rfl rfl rfl rfl rfl rfl rfl rfl (wl_unwanted rfl rfl rfl rfl rfl rfl rfl rfl (wl_unwanted rfl rfl rfl rfl rfl rfl rfl rfl (wl_unwanted rfl rfl rfl rfl rfl rfl rfl rfl (wl_unwanted rfl rfl rfl rfl rfl rfl rfl rfl (zd rfl (op_pick_f rfl rfl) (wl_nil (st_tn ?_))))))))))
        exact cut_done1 [6, 7, 20] hK rfl (by first | (rw [decide_eq_decide]; omega) | (symm; rw [decide_eq_false_iff_not]; omega) | (symm; rw [decide_eq_true_iff]; omega) | (simp; done) | (simp; omega) | (simp [*]; done) | (simp [*]; omega)) (by rfl) rfl rfl
    · -- behind r8
      show W _ _ _ _ _ [(43, _), (0, _), (5, _), (6, _), (7, _), (8, _), (9, _), (10, _), (11, _)] [(6, _), (7, _), (20, _)] _
      refine w_cond_d rfl (fun hc43 => ?_) (fun hc43 => ?_)
      · -- c43.t
        refine Exists.elim (getE (l := low) (i := low.length - 1) (by omega)) (fun m hm => ?_)
        have hgd : low.getD (low.length - 1) 0 = m := by rw [List.getD_eq_getElem?_getD, hm]; rfl
        have hmx : m < x := by rw [← hgd]; exact hc43.2
        refine w_seq (w_region (zm rfl (zm rfl (wl_op [] rfl rfl rfl rfl (op_fn Try.func57 rfl rfl rfl (bsearchI x (Sl.lab 7 rfl (by unfold maxLen; omega)) p2 (by omega))) ?_))))
        rintro _ _ ⟨k12, b13, hk, rfl, rfl⟩
        refine zm rfl (zd rfl (op_extract rfl rfl) (zd rfl (op_extract rfl rfl) (za rfl (za rfl (wl_nil (st_tn ?_))))))
        have hcat := cat_high hh hm hmx hk
        rw [← hpc] at hcat
        have hkl := hk.le
        have hil := ins_len (x := x) hkl
        have his := ins_sum high k12 x
        refine w_region (zm rfl (zm rfl (zm rfl (wl_op [] rfl rfl rfl rfl (op_buildSlice (enc := SL.encZ) (l := [_]) (lab := 53) tL30_1uc rfl rfl (fun _ => rfl) rfl) ?_))))
        rintro _ _ ⟨a53, c53, rfl, rfl⟩
        refine wl_op [7, 53] rfl rfl rfl rfl (op_fn Try.func58 rfl rfl rfl (insertI k12 7 53 54 hkl (by omega))) ?_
        rintro _ _ ⟨a54, c54, rfl, rfl⟩
        refine zm rfl (zm rfl (zd rfl (op_add' rfl rfl (by omega)) ?_))
        refine za rfl (za rfl (wl_nil (st_tn (w_seq (w_seq ?_)))))
        have hs3 : low.sum = sl := hsl.symm
        have hs4 : (insA high k12 x).sum = sh + x := by rw [his, ← hsh]
        refine w_region (zm rfl (zd rfl (op_lenT rfl tS30uc (Sl.ent (Sl.lab 6 rfl (by first | (unfold maxLen; omega) | (rw [List.length_replicate]; unfold maxLen; omega))))) ?_))
        refine zm rfl (zd rfl (op_lenT rfl tS30uc (Sl.ent (Sl.lab 54 rfl (by first | (unfold maxLen; omega) | (rw [List.length_replicate]; unfold maxLen; omega))))) ?_)
        refine zd rfl (op_add' rfl rfl (by omega)) ?_
        refine zd rfl (op_gtr rfl rfl) (wl_nil (st_tn (w_cond_d rfl (fun hc77 => ?_) (fun hc77 => ?_))))
        · -- c77.t
          exfalso; omega
        · -- c77.f
          refine w_seq (w_region (zm rfl (zd rfl (op_lenT rfl tS30uc (Sl.ent (Sl.lab 6 rfl (by first | (unfold maxLen; omega) | (rw [List.length_replicate]; unfold maxLen; omega))))) ?_)))
          refine zm rfl (zd rfl (op_lenT rfl tS30uc (Sl.ent (Sl.lab 54 rfl (by first | (unfold maxLen; omega) | (rw [List.length_replicate]; unfold maxLen; omega))))) ?_)
          refine zd rfl (op_lss rfl rfl) (wl_nil (st_tn (w_cond_d rfl (fun hc103 => ?_) (fun hc103 => ?_))))
          · -- c103.t
            refine w_seq (Exists.elim (getE (l := insA high k12 x) (i := 0) (by omega)) (fun m3 hm3 => ?_))
            have hF := cat_down hcat hm3 (by omega)
            have hm3b : -1000 ≤ m3 ∧ m3 ≤ 1000 := by
              rcases ins_mem.1 (List.mem_of_getElem? hm3) with h9 | h9
              · rw [h9]; exact hxb
              · exact hbh m3 h9
            have hs4 := sum_tail hm3
            rw [his, ← hsh] at hs4
            have hdl : ((insA high k12 x).drop 1).length = (insA high k12 x).length - 1 := List.length_drop ..
            have hs3 : (low ++ [m3]).sum = sl + m3 := by rw [List.sum_append, ← hsl]; simp
            refine w_region (zm rfl (zd rfl (op_idx (i := 0) rfl rfl tS30uc (Sl.ent (Sl.lab 54 rfl (by unfold maxLen; omega))) (by omega)) ?_))
            refine zd rfl (op_ldx (i := 0) rfl tO3uc (Sl.lab 54 rfl (by unfold maxLen; omega)) hm3 (by rfl)) ?_
            refine za rfl (wl_nil (st_tn (w_seq (w_region (zm rfl (wl_op [54] rfl rfl rfl rfl (op_fn Try.func59 rfl rfl rfl (deleteI 54 108 (by omega) (by omega))) ?_))))))
            rintro _ _ ⟨a108, c108, rfl, rfl⟩
            refine zm rfl (zm rfl (zd rfl (op_sub' rfl rfl (by omega)) ?_))
            refine za rfl (za rfl (wl_nil (st_tn (w_region (zm rfl (zm rfl (wl_op [] rfl rfl rfl rfl (op_buildSlice (enc := SL.encZ) (l := [m3]) (lab := 114) tL30_1uc rfl rfl (fun _ => rfl) rfl) ?_)))))))
            rintro _ _ ⟨a114, c114, rfl, rfl⟩
            refine wl_op [6] rfl rfl rfl rfl (op_append (lab := 6) (lab' := 115) rfl rfl tP30uc SL.enc1Z (Sl.lab 114 rfl (by simp [maxLen])) (by first | omega | (simp; done) | (simp; omega) | (simp [*]; omega)) (by first | omega | (simp; done) | (simp; omega) | (simp [*]; omega))) ?_
            rintro _ _ ⟨a115, c115, rfl, rfl⟩
            refine zm rfl (zm rfl (zd rfl (op_add' rfl rfl (by omega)) ?_))
            refine za rfl (za rfl (wl_nil (st_tn (w_seq ?_))))
            obtain ⟨m9, hm9, hco, f1, f2, f3, f4, f5⟩ := fin_facts hb hF (by omega) ht
            refine w_region (zm rfl (zm rfl (zd rfl (op_lenT rfl tS30uc (Sl.ent (Sl.lab 115 rfl (by first | (unfold maxLen; omega) | (rw [List.length_replicate]; unfold maxLen; omega))))) ?_)))
            refine zd rfl (op_val (v' := .int .i64 (((low ++ [m3]).length - 1 : Nat) : Int)) (by rw [show (((low ++ [m3]).length - 1 : Nat) : Int) = ((low ++ [m3]).length : Int) - 1 by omega]) (op_sub' rfl rfl (by omega))) ?_
            refine zd rfl (op_idx rfl rfl tS30uc (Sl.ent (Sl.lab 115 rfl (by first | (unfold maxLen; omega) | (rw [List.length_replicate]; unfold maxLen; omega)))) (by omega)) ?_
            refine zd rfl (op_ldx rfl tO3uc (Sl.lab 115 rfl (by first | (unfold maxLen; omega) | (rw [List.length_replicate]; unfold maxLen; omega))) (by assumption) (by rfl)) ?_
            refine za rfl (wl_nil (st_tn (w_region (zm rfl (zd rfl (op_val (v' := .int .i64 ((j : Nat) : Int)) (by rw [show ((j : Nat) : Int) = ((j + 1 : Nat) : Int) - 1 by omega]) (op_move rfl)) ?_)))))
            refine zm rfl (zm rfl (zd rfl (op_lenT rfl tS30uc (Sl.ent (Sl.lab 115 rfl (by first | (unfold maxLen; omega) | (rw [List.length_replicate]; unfold maxLen; omega))))) ?_))
            refine zd rfl (op_mul' rfl rfl (by omega)) ?_
            refine zm rfl (zd rfl (op_sub' rfl rfl (by omega)) ?_)
            refine zm rfl (zd rfl (op_add' rfl rfl (by omega)) ?_)
            refine zm rfl (zm rfl (zd rfl (op_lenT rfl tS30uc (Sl.ent (Sl.lab 108 rfl (by first | (unfold maxLen; omega) | (rw [List.length_replicate]; unfold maxLen; omega))))) ?_))
            refine zd rfl (op_mul' rfl rfl (by omega)) ?_
            refine zd rfl (op_sub' rfl rfl (by omega)) ?_
            refine zd rfl (op_idx rfl rfl tS30uc (Sl.ent (Sl.lab 20 rfl (by first | (unfold maxLen; omega) | (rw [List.length_replicate]; unfold maxLen; omega)))) (by omega)) ?_
            refine wl_op0 [20] rfl rfl rfl (op_storeX (lab := 20) (j := 0) rfl rfl tO3uc rfl rfl (by rfl) (by first | assumption | (simp [*]; done)) (Nat.le_of_ble_eq_true rfl) (by rfl)) ?_
            rintro _ _ ⟨rfl, rfl⟩
            refine wl_nil (st_bn (st_tn (w_region (zd rfl (op_val (v' := .int .i64 ((j : Nat) : Int)) (by rw [show ((j : Nat) : Int) = ((j + 1 : Nat) : Int) - 1 by omega]) (op_move rfl)) ?_))))
            refine zd rfl (op_sub' rfl rfl (by omega)) ?_
            refine za rfl (wl_nil ?_)
            refine st_roundQ (x := (j + 1, out, low, a_low, c_low, high, a_high, c_high, sl, sh)) ((j, _, _, _, _, _, _, _, _, _)) [115, 108, 20] rfl (rfl) (.cons rfl (.cons rfl (.cons rfl (.cons rfl (.cons rfl (.nil _)))))) (.cons rfl (.cons rfl (.nil _))) (by
                try dsimp only
                exact ⟨⟨by omega, (congrArg (List.set out j) (show _ = segC pts j t by rw [hco, hs3, hs4])).trans (by rw [ho]; exact costs_step pts (by omega))⟩, hF, hs3.symm, hs4.symm⟩) (by
                try dsimp only
                omega)
          · -- c103.f
            refine w_skip (st_tn (w_seq ?_))
            have hF := cat_same hcat (by omega) (by omega)
            obtain ⟨m9, hm9, hco, f1, f2, f3, f4, f5⟩ := fin_facts hb hF (by omega) ht
            refine w_region (zm rfl (zm rfl (zd rfl (op_lenT rfl tS30uc (Sl.ent (Sl.lab 6 rfl (by first | (unfold maxLen; omega) | (rw [List.length_replicate]; unfold maxLen; omega))))) ?_)))
            refine zd rfl (op_val (v' := .int .i64 ((low.length - 1 : Nat) : Int)) (by rw [show ((low.length - 1 : Nat) : Int) = (low.length : Int) - 1 by omega]) (op_sub' rfl rfl (by omega))) ?_
            refine zd rfl (op_idx rfl rfl tS30uc (Sl.ent (Sl.lab 6 rfl (by first | (unfold maxLen; omega) | (rw [List.length_replicate]; unfold maxLen; omega)))) (by omega)) ?_
            refine zd rfl (op_ldx rfl tO3uc (Sl.lab 6 rfl (by first | (unfold maxLen; omega) | (rw [List.length_replicate]; unfold maxLen; omega))) (by assumption) (by rfl)) ?_
            refine za rfl (wl_nil (st_tn (w_region (zm rfl (zd rfl (op_val (v' := .int .i64 ((j : Nat) : Int)) (by rw [show ((j : Nat) : Int) = ((j + 1 : Nat) : Int) - 1 by omega]) (op_move rfl)) ?_)))))
            refine zm rfl (zm rfl (zd rfl (op_lenT rfl tS30uc (Sl.ent (Sl.lab 6 rfl (by first | (unfold maxLen; omega) | (rw [List.length_replicate]; unfold maxLen; omega))))) ?_))
            refine zd rfl (op_mul' rfl rfl (by omega)) ?_
            refine zm rfl (zd rfl (op_sub' rfl rfl (by omega)) ?_)
            refine zm rfl (zd rfl (op_add' rfl rfl (by omega)) ?_)
            refine zm rfl (zm rfl (zd rfl (op_lenT rfl tS30uc (Sl.ent (Sl.lab 54 rfl (by first | (unfold maxLen; omega) | (rw [List.length_replicate]; unfold maxLen; omega))))) ?_))
            refine zd rfl (op_mul' rfl rfl (by omega)) ?_
            refine zd rfl (op_sub' rfl rfl (by omega)) ?_
            refine zd rfl (op_idx rfl rfl tS30uc (Sl.ent (Sl.lab 20 rfl (by first | (unfold maxLen; omega) | (rw [List.length_replicate]; unfold maxLen; omega)))) (by omega)) ?_
            refine wl_op0 [20] rfl rfl rfl (op_storeX (lab := 20) (j := 0) rfl rfl tO3uc rfl rfl (by rfl) (by first | assumption | (simp [*]; done)) (Nat.le_of_ble_eq_true rfl) (by rfl)) ?_
            rintro _ _ ⟨rfl, rfl⟩
            refine wl_nil (st_bn (st_tn (w_region (zd rfl (op_val (v' := .int .i64 ((j : Nat) : Int)) (by rw [show ((j : Nat) : Int) = ((j + 1 : Nat) : Int) - 1 by omega]) (op_move rfl)) ?_))))
            refine zd rfl (op_sub' rfl rfl (by omega)) ?_
            refine za rfl (wl_nil ?_)
            refine st_roundQ (x := (j + 1, out, low, a_low, c_low, high, a_high, c_high, sl, sh)) ((j, _, _, _, _, _, _, _, _, _)) [6, 54, 20] rfl (rfl) (.cons rfl (.cons rfl (.cons rfl (.cons rfl (.cons rfl (.nil _)))))) (.cons rfl (.cons rfl (.nil _))) (by
                try dsimp only
                exact ⟨⟨by omega, (congrArg (List.set out j) (show _ = segC pts j t by rw [hco, hs3, hs4])).trans (by rw [ho]; exact costs_step pts (by omega))⟩, hF, hs3.symm, hs4.symm⟩) (by
                try dsimp only
                omega)
      · -- c43.f
        have hxm : ∀ m, low[low.length - 1]? = some m → x ≤ m := fun m hm => by
          have h9 := (List.getElem?_eq_some_iff.1 hm).1
          have hgd : low.getD (low.length - 1) 0 = m := by rw [List.getD_eq_getElem?_getD, hm]; rfl
          refine Decidable.byContradiction fun h8 => hc43 ⟨by omega, by rw [hgd]; omega⟩
        refine w_seq (w_region (zm rfl (zm rfl (wl_op [] rfl rfl rfl rfl (op_fn Try.func57 rfl rfl rfl (bsearchI x (Sl.lab 6 rfl (by unfold maxLen; omega)) p1 (by omega))) ?_))))
        rintro _ _ ⟨k14, b15, hk, rfl, rfl⟩
        refine zm rfl (zd rfl (op_extract rfl rfl) (zd rfl (op_extract rfl rfl) (za rfl (za rfl (wl_nil (st_tn ?_))))))
        have hcat := cat_low hh hxm hk
        rw [← hpc] at hcat
        have hkl := hk.le
        have hil := ins_len (x := x) hkl
        have his := ins_sum low k14 x
        refine w_region (zm rfl (zm rfl (zm rfl (wl_op [] rfl rfl rfl rfl (op_buildSlice (enc := SL.encZ) (l := [_]) (lab := 67) tL30_1uc rfl rfl (fun _ => rfl) rfl) ?_))))
        rintro _ _ ⟨a67, c67, rfl, rfl⟩
        refine wl_op [6, 67] rfl rfl rfl rfl (op_fn Try.func58 rfl rfl rfl (insertI k14 6 67 68 hkl (by omega))) ?_
        rintro _ _ ⟨a68, c68, rfl, rfl⟩
        refine zm rfl (zm rfl (zd rfl (op_add' rfl rfl (by omega)) ?_))
        refine za rfl (za rfl (wl_nil (st_tn (w_seq (w_seq ?_)))))
        have hs3 : (insA low k14 x).sum = sl + x := by rw [his, ← hsl]
        have hs4 : high.sum = sh := hsh.symm
        refine w_region (zm rfl (zd rfl (op_lenT rfl tS30uc (Sl.ent (Sl.lab 68 rfl (by first | (unfold maxLen; omega) | (rw [List.length_replicate]; unfold maxLen; omega))))) ?_))
        refine zm rfl (zd rfl (op_lenT rfl tS30uc (Sl.ent (Sl.lab 7 rfl (by first | (unfold maxLen; omega) | (rw [List.length_replicate]; unfold maxLen; omega))))) ?_)
        refine zd rfl (op_add' rfl rfl (by omega)) ?_
        refine zd rfl (op_gtr rfl rfl) (wl_nil (st_tn (w_cond_d rfl (fun hc77 => ?_) (fun hc77 => ?_))))
        · -- c77.t
          refine w_seq (Exists.elim (getE (l := insA low k14 x) (i := (insA low k14 x).length - 1) (by omega)) (fun m2 hm2 => ?_))
          have hF := cat_up hcat hm2 (by omega)
          have hm2b : -1000 ≤ m2 ∧ m2 ≤ 1000 := by
            rcases ins_mem.1 (List.mem_of_getElem? hm2) with h9 | h9
            · rw [h9]; exact hxb
            · exact hbl m2 h9
          have hs3 := sum_cut hm2
          rw [his, ← hsl] at hs3
          have hs4 := ins_sum high 0 m2
          rw [← hsh] at hs4
          have hcl9 : ((insA low k14 x).take ((insA low k14 x).length - 1)).length = (insA low k14 x).length - 1 := by rw [List.length_take]; omega
          have hil2 := ins_len (l := high) (k := 0) (x := m2) (Nat.zero_le _)
          refine w_region (zm rfl (zm rfl (zd rfl (op_lenT rfl tS30uc (Sl.ent (Sl.lab 68 rfl (by first | (unfold maxLen; omega) | (rw [List.length_replicate]; unfold maxLen; omega))))) ?_)))
          refine zd rfl (op_val (v' := .int .i64 (((insA low k14 x).length - 1 : Nat) : Int)) (by rw [show (((insA low k14 x).length - 1 : Nat) : Int) = ((insA low k14 x).length : Int) - 1 by omega]) (op_sub' rfl rfl (by omega))) ?_
          refine zd rfl (op_idx rfl rfl tS30uc (Sl.ent (Sl.lab 68 rfl (by first | (unfold maxLen; omega) | (rw [List.length_replicate]; unfold maxLen; omega)))) (by omega)) ?_
          refine zd rfl (op_ldx rfl tO3uc (Sl.lab 68 rfl (by unfold maxLen; omega)) hm2 (by rfl)) ?_
          refine za rfl (wl_nil (st_tn (w_seq (w_region (zm rfl (zm rfl (zd rfl (op_lenT rfl tS30uc (Sl.ent (Sl.lab 68 rfl (by first | (unfold maxLen; omega) | (rw [List.length_replicate]; unfold maxLen; omega))))) ?_)))))))
          refine zd rfl (op_val (v' := .int .i64 (((insA low k14 x).length - 1 : Nat) : Int)) (by rw [show (((insA low k14 x).length - 1 : Nat) : Int) = ((insA low k14 x).length : Int) - 1 by omega]) (op_sub' rfl rfl (by omega))) ?_
          refine zd rfl (op_val (v' := .slice a68 ((insA low k14 x).take ((insA low k14 x).length - 1)).length c68) (by rw [sub_zeroS, Nat.sub_zero, Nat.sub_zero, hcl9]) (op_sliceR rfl rfl tS30uc (Sl.lab 68 rfl (by first | (unfold maxLen; omega) | (rw [List.length_replicate]; unfold maxLen; omega))) (by omega))) ?_
          refine zm rfl (zm rfl (zd rfl (op_sub' rfl rfl (by omega)) ?_))
          refine za rfl (za rfl (wl_nil (st_tn (w_cls [68] (A := [(68, slW 3 SL.encZ 1 (.slice a68 (insA low k14 x).length c68) (insA low k14 x))]) (C := [(6, slW 3 SL.encZ 1 (.slice a68 ((insA low k14 x).take ((insA low k14 x).length - 1)).length c68) ((insA low k14 x).take ((insA low k14 x).length - 1)))]) (cls_cut ((insA low k14 x).length - 1) (by omega)) rfl ?_))))
          refine w_region (zm rfl (zm rfl (wl_op [] rfl rfl rfl rfl (op_buildSlice (enc := SL.encZ) (l := [_]) (lab := 94) tL30_1uc rfl rfl (fun _ => rfl) rfl) ?_)))
          rintro _ _ ⟨a94, c94, rfl, rfl⟩
          refine wl_op [7, 94] rfl rfl rfl rfl (op_fn Try.func58 rfl rfl rfl (insertI 0 7 94 95 (Nat.zero_le _) (by omega))) ?_
          rintro _ _ ⟨a95, c95, rfl, rfl⟩
          refine zm rfl (zm rfl (zd rfl (op_add' rfl rfl (by omega)) ?_))
          refine za rfl (za rfl (wl_nil (st_tn (w_seq ?_))))
          obtain ⟨m9, hm9, hco, f1, f2, f3, f4, f5⟩ := fin_facts hb hF (by omega) ht
          refine w_region (zm rfl (zm rfl (zd rfl (op_lenT rfl tS30uc (Sl.ent (Sl.lab 6 rfl (by unfold maxLen; omega)))) ?_)))
          refine zd rfl (op_val (v' := .int .i64 ((((insA low k14 x).take ((insA low k14 x).length - 1)).length - 1 : Nat) : Int)) (by rw [show ((((insA low k14 x).take ((insA low k14 x).length - 1)).length - 1 : Nat) : Int) = (((insA low k14 x).take ((insA low k14 x).length - 1)).length : Int) - 1 by omega]) (op_sub' rfl rfl (by omega))) ?_
          refine zd rfl (op_idx rfl rfl tS30uc (Sl.ent (Sl.lab 6 rfl (by unfold maxLen; omega))) (by omega)) ?_
          refine zd rfl (op_ldx rfl tO3uc (Sl.lab 6 rfl (by unfold maxLen; omega)) (by assumption) (by rfl)) ?_
          refine za rfl (wl_nil (st_tn (w_region (zm rfl (zd rfl (op_val (v' := .int .i64 ((j : Nat) : Int)) (by rw [show ((j : Nat) : Int) = ((j + 1 : Nat) : Int) - 1 by omega]) (op_move rfl)) ?_)))))
          refine zm rfl (zm rfl (zd rfl (op_lenT rfl tS30uc (Sl.ent (Sl.lab 6 rfl (by unfold maxLen; omega)))) ?_))
          refine zd rfl (op_mul' rfl rfl (by omega)) ?_
          refine zm rfl (zd rfl (op_sub' rfl rfl (by omega)) ?_)
          refine zm rfl (zd rfl (op_add' rfl rfl (by omega)) ?_)
          refine zm rfl (zm rfl (zd rfl (op_lenT rfl tS30uc (Sl.ent (Sl.lab 95 rfl (by first | (unfold maxLen; omega) | (rw [List.length_replicate]; unfold maxLen; omega))))) ?_))
          refine zd rfl (op_mul' rfl rfl (by omega)) ?_
          refine zd rfl (op_sub' rfl rfl (by omega)) ?_
          refine zd rfl (op_idx rfl rfl tS30uc (Sl.ent (Sl.lab 20 rfl (by first | (unfold maxLen; omega) | (rw [List.length_replicate]; unfold maxLen; omega)))) (by omega)) ?_
          refine wl_op0 [20] rfl rfl rfl (op_storeX (lab := 20) (j := 0) rfl rfl tO3uc rfl rfl (by rfl) (by first | assumption | (simp [*]; done)) (Nat.le_of_ble_eq_true rfl) (by rfl)) ?_
          rintro _ _ ⟨rfl, rfl⟩
          refine wl_nil (st_bn (st_tn (w_region (zd rfl (op_val (v' := .int .i64 ((j : Nat) : Int)) (by rw [show ((j : Nat) : Int) = ((j + 1 : Nat) : Int) - 1 by omega]) (op_move rfl)) ?_))))
          refine zd rfl (op_sub' rfl rfl (by omega)) ?_
          refine za rfl (wl_nil ?_)
          refine st_roundQ (x := (j + 1, out, low, a_low, c_low, high, a_high, c_high, sl, sh)) ((j, _, _, _, _, _, _, _, _, _)) [6, 95, 20] rfl (rfl) (.cons rfl (.cons rfl (.cons rfl (.cons rfl (.cons rfl (.nil _)))))) (.cons rfl (.cons rfl (.nil _))) (by
              try dsimp only
              exact ⟨⟨by omega, (congrArg (List.set out j) (show _ = segC pts j t by rw [hco, hs3, hs4])).trans (by rw [ho]; exact costs_step pts (by omega))⟩, hF, hs3.symm, hs4.symm⟩) (by
              try dsimp only
              omega)
        · -- c77.f
          refine w_seq (w_region (zm rfl (zd rfl (op_lenT rfl tS30uc (Sl.ent (Sl.lab 68 rfl (by first | (unfold maxLen; omega) | (rw [List.length_replicate]; unfold maxLen; omega))))) ?_)))
          refine zm rfl (zd rfl (op_lenT rfl tS30uc (Sl.ent (Sl.lab 7 rfl (by first | (unfold maxLen; omega) | (rw [List.length_replicate]; unfold maxLen; omega))))) ?_)
          refine zd rfl (op_lss rfl rfl) (wl_nil (st_tn (w_cond_d rfl (fun hc103 => ?_) (fun hc103 => ?_))))
          · -- c103.t
            exfalso; omega
          · -- c103.f
            refine w_skip (st_tn (w_seq ?_))
            have hF := cat_same hcat (by omega) (by omega)
            obtain ⟨m9, hm9, hco, f1, f2, f3, f4, f5⟩ := fin_facts hb hF (by omega) ht
            refine w_region (zm rfl (zm rfl (zd rfl (op_lenT rfl tS30uc (Sl.ent (Sl.lab 68 rfl (by first | (unfold maxLen; omega) | (rw [List.length_replicate]; unfold maxLen; omega))))) ?_)))
            refine zd rfl (op_val (v' := .int .i64 (((insA low k14 x).length - 1 : Nat) : Int)) (by rw [show (((insA low k14 x).length - 1 : Nat) : Int) = ((insA low k14 x).length : Int) - 1 by omega]) (op_sub' rfl rfl (by omega))) ?_
            refine zd rfl (op_idx rfl rfl tS30uc (Sl.ent (Sl.lab 68 rfl (by first | (unfold maxLen; omega) | (rw [List.length_replicate]; unfold maxLen; omega)))) (by omega)) ?_
            refine zd rfl (op_ldx rfl tO3uc (Sl.lab 68 rfl (by first | (unfold maxLen; omega) | (rw [List.length_replicate]; unfold maxLen; omega))) (by assumption) (by rfl)) ?_
            refine za rfl (wl_nil (st_tn (w_region (zm rfl (zd rfl (op_val (v' := .int .i64 ((j : Nat) : Int)) (by rw [show ((j : Nat) : Int) = ((j + 1 : Nat) : Int) - 1 by omega]) (op_move rfl)) ?_)))))
            refine zm rfl (zm rfl (zd rfl (op_lenT rfl tS30uc (Sl.ent (Sl.lab 68 rfl (by first | (unfold maxLen; omega) | (rw [List.length_replicate]; unfold maxLen; omega))))) ?_))
            refine zd rfl (op_mul' rfl rfl (by omega)) ?_
            refine zm rfl (zd rfl (op_sub' rfl rfl (by omega)) ?_)
            refine zm rfl (zd rfl (op_add' rfl rfl (by omega)) ?_)
            refine zm rfl (zm rfl (zd rfl (op_lenT rfl tS30uc (Sl.ent (Sl.lab 7 rfl (by first | (unfold maxLen; omega) | (rw [List.length_replicate]; unfold maxLen; omega))))) ?_))
            refine zd rfl (op_mul' rfl rfl (by omega)) ?_
            refine zd rfl (op_sub' rfl rfl (by omega)) ?_
            refine zd rfl (op_idx rfl rfl tS30uc (Sl.ent (Sl.lab 20 rfl (by first | (unfold maxLen; omega) | (rw [List.length_replicate]; unfold maxLen; omega)))) (by omega)) ?_
            refine wl_op0 [20] rfl rfl rfl (op_storeX (lab := 20) (j := 0) rfl rfl tO3uc rfl rfl (by rfl) (by first | assumption | (simp [*]; done)) (Nat.le_of_ble_eq_true rfl) (by rfl)) ?_
            rintro _ _ ⟨rfl, rfl⟩
            refine wl_nil (st_bn (st_tn (w_region (zd rfl (op_val (v' := .int .i64 ((j : Nat) : Int)) (by rw [show ((j : Nat) : Int) = ((j + 1 : Nat) : Int) - 1 by omega]) (op_move rfl)) ?_))))
            refine zd rfl (op_sub' rfl rfl (by omega)) ?_
            refine za rfl (wl_nil ?_)
            refine st_roundQ (x := (j + 1, out, low, a_low, c_low, high, a_high, c_high, sl, sh)) ((j, _, _, _, _, _, _, _, _, _)) [68, 7, 20] rfl (rfl) (.cons rfl (.cons rfl (.cons rfl (.cons rfl (.cons rfl (.nil _)))))) (.cons rfl (.cons rfl (.nil _))) (by
                try dsimp only
                exact ⟨⟨by omega, (congrArg (List.set out j) (show _ = segC pts j t by rw [hco, hs3, hs4])).trans (by rw [ho]; exact costs_step pts (by omega))⟩, hF, hs3.symm, hs4.symm⟩) (by
                try dsimp only
                omega)
  · -- c24.f
    refine w_exit (st_te ?_)
    refine st_te ?_
    refine st_be (st_tn (w_seq (w_region (zm rfl (za rfl (wl_nil (st_tn (w_ret (st_ret (vs := [_]) [20] Try.results40 ⟨rfl, trivial⟩ rfl ?_)))))))))
    refine ⟨[(lab, _)], rfl, ?_⟩
    have hi0 : i = 0 := by omega
    subst hi0
    have hfin : out = costsL pts t := by rw [ho]; simp
    subst hfin
    exact ⟨a20, c20, by rw [List.length_replicate, hcl]; rfl, by rw [List.length_replicate, hcl]⟩
end Go.Proofs.Ytecmigildpkigaa
namespace Go.Proofs.Ytecmigildpkigaa
open Go Go.SL Go.RowKit Go.SegP
set_option linter.unusedVariables false
set_option linter.unusedSimpArgs false
theorem tA97ud : aggB Try.prog 97 2 = true := by kernel_rfl
theorem tB97ud : placesB Try.prog 97 = some ([(0, 1), (1, 1)], [Value.int .i64 0, Value.slice none 0 0]) := by kernel_rfl
theorem tF97_0ud : fieldB Try.prog 97 0 0 = true := by kernel_rfl
theorem tF97_1ud : fieldB Try.prog 97 1 1 = true := by kernel_rfl
theorem tL30_1ud : zerosB Try.prog 30 3 1 1 = some [Value.int .i64 0] := by kernel_rfl
theorem tN97ud : (Try.prog.info? 97).bind (·.zero) = some (Value.agg #[Value.int .i64 0, Value.slice none 0 0]) := by kernel_rfl
theorem tO3ud : oneB Try.prog 3 = true := by kernel_rfl
theorem tO30ud : oneB Try.prog 30 = true := by kernel_rfl
theorem tP30ud : appB Try.prog 30 3 1 8 = true := by kernel_rfl
theorem tS30ud : sliceB Try.prog 30 3 1 = true := by kernel_rfl
theorem tS99ud : sliceB Try.prog 99 30 1 = true := by kernel_rfl
theorem tZ30ud : (Try.prog.info? 30).map (·.size) = some 1 := by kernel_rfl
theorem tZ97ud : (Try.prog.info? 97).map (·.size) = some 2 := by kernel_rfl
structure BstV where
  tot : Int
  a : Option Addr
  c : Nat
  cuts : List Int
def encBst (x : BstV) : List Value := [.int .i64 x.tot, .slice x.a x.cuts.length x.c]
theorem enc1Bst : Enc1 encBst 2 := ⟨fun _ => rfl, fun a u h => by simp only [encBst, List.mem_cons, List.not_mem_nil, or_false] at h; rcases h with rfl | rfl <;> rfl⟩
def keyB (x : BstV) : BV := (x.tot, x.cuts)
theorem total_bd {pts cuts : List Int} (hb : PtsB pts) (hc : Cuts pts.length 0 cuts) (j : Nat) : 0 ≤ ((((prt pts.length 0 cuts).map fun p => segC pts p.1 p.2).take j).sum) ∧ ((((prt pts.length 0 cuts).map fun p => segC pts p.1 p.2).take j).sum) ≤ 200000 * j := by
  induction j with
  | zero => simp
  | succ j ih =>
    by_cases h : j < ((prt pts.length 0 cuts).map fun p => segC pts p.1 p.2).length
    · obtain ⟨v, hv⟩ := getE h
      rw [take_snocS hv, List.sum_append]
      obtain ⟨p, _, rfl⟩ := List.mem_map.1 (List.mem_of_getElem? hv)
      have := segC_pos pts hb p.1 p.2
      simp; omega
    · rw [List.take_of_length_le (by omega)] at ih ⊢
      omega
set_option maxHeartbeats 1000000 in
set_option maxRecDepth 100000 in
theorem totalS {σ : World} {F : List Res} {a b : Option Addr} {c d : Nat} {pts cuts : List Int} (pen : Int) (g : Sl σ F SL.encZ 1 (.slice a pts.length c) pts) (gc : Sl σ F SL.encZ 1 (.slice b cuts.length d) cuts) (hb : PtsB pts) (h1 : 1 ≤ pts.length) (hp : 0 ≤ pen ∧ pen ≤ 1000) (hc : Cuts pts.length 0 cuts) :
    FnT Try.prog σ F 20 [.slice a pts.length c, .int .i64 pen, .slice b cuts.length d] [] (fun u ρ => u = .tuple #[.int .i64 (pen * cuts.length + sgs (segC pts) pts.length 0 cuts), .int .i64 0] ∧ ρ = []) := by
  refine fn_of 43 Try.func20 rfl Try.ntmps20 rfl ?_
  have hle := hb.len
  have hcl := cuts_len hc
  have hm := mul_bd (m := pen) (k := cuts.length) (by omega) (by omega)
  have hpl := prt_len pts.length 0 cuts
  have hhl : ((prt pts.length 0 cuts).map (hdr a c)).length = cuts.length + 1 := by rw [List.length_map, hpl]
  have hsum := prt_sum (segC pts) pts.length 0 cuts
  refine w_seq (w_region (za rfl (za rfl (wl_nil (st_tn (w_seq (w_seq (w_region (zm rfl (zm rfl (zd rfl (op_fn Try.func34 rfl rfl rfl (checkS pen (g.app _) hb h1 hp)) (za rfl (wl_nil ?_)))))))))))))
  refine st_tn (w_seq (w_region (zm rfl (zd rfl (op_val (v' := .bool false) (by rfl) (op_neq rfl rfl)) ?_))))
  refine wl_nil (st_tn (w_cond_f (rfl) ?_))
  refine w_skip (st_tn (w_seq (w_seq (w_region (zm rfl (zm rfl (zd rfl (op_fn Try.func37 rfl rfl rfl (checkCutsS (g.app _) (gc.app _) hc)) (za rfl (wl_nil (st_tn (w_seq (w_region (zm rfl ?_)))))))))))))
  refine zd rfl (op_val (v' := .bool false) (by rfl) (op_neq rfl rfl)) ?_
  refine wl_nil (st_tn (w_cond_f (rfl) ?_))
  refine w_skip (st_tn (w_seq (w_region (zm rfl (zm rfl (zd rfl (op_lenT rfl tS30ud (Sl.ent (gc.app _))) (zd rfl (op_mul' rfl rfl (by omega)) ?_)))))))
  refine za rfl (wl_nil (st_tn (w_seq (w_seq (w_region (zm rfl (zm rfl (wl_op [] rfl rfl rfl rfl (op_fn Try.func38 rfl rfl rfl (partsS 31 (g.app _) (gc.app _) hc hle)) ?_))))))))
  rintro _ _ ⟨a31, c31, rfl, rfl⟩
  refine zd rfl (op_lenT rfl tS99ud (Sl.ent (Sl.lab 31 rfl (by unfold maxLen; omega)))) ?_
  refine zm rfl (wl_nil (st_tn (w_block ?_)))
  refine w_loopQ (X := Int × Nat) (fun z => z.2 ≤ cuts.length + 1 ∧ z.1 = pen * cuts.length + (((prt pts.length 0 cuts).map fun p => segC pts p.1 p.2).take z.2).sum) (fun z => [(10, .int .i64 (z.1)), (33, .int .i64 (z.2))]) (fun _ => []) (fun z => cuts.length + 1 - z.2) ((_, 0)) [(31, _), (32, _)] [(31, _)] [31] rfl (rfl) (.cons rfl (.cons rfl (.nil _))) (.cons rfl (.cons rfl (.nil _))) (by
      try dsimp only
      exact ⟨Nat.zero_le _, by simp⟩) ?_
  rintro ⟨tt, j⟩ ⟨hj, ht⟩
  refine w_norm2 (by dsimp only [List.cons_append, List.nil_append]) (by dsimp only [List.cons_append, List.nil_append]) ?_
  try dsimp only at hj ht ⊢
  refine w_seq (w_region (zd rfl (op_lss rfl rfl) (wl_nil (st_tn (w_seq (w_cond_d rfl (fun hc34 => ?_) (fun hc34 => ?_)))))))
  · -- c34.t
    obtain ⟨p, hp2⟩ := getE (l := prt pts.length 0 cuts) (i := j) (by omega)
    have hpb := prt_bd hc p (List.mem_of_getElem? hp2)
    have hps : ((prt pts.length 0 cuts).map fun p => segC pts p.1 p.2)[j]? = some (segC pts p.1 p.2) := by rw [List.getElem?_map, hp2]; rfl
    have hhd : ((prt pts.length 0 cuts).map (hdr a c))[j]? = some (hdr a c p) := by rw [List.getElem?_map, hp2]; rfl
    have htb := total_bd hb hc j
    have hsb := segC_pos pts hb p.1 p.2
    have hpt : ((pts.take p.2).drop p.1).length = p.2 - p.1 := by rw [List.length_drop, List.length_take]; omega
    refine w_skip (st_tn (w_seq (w_block (w_seq (w_region (zd rfl (op_idx rfl rfl tS99ud (Sl.ent (Sl.lab 31 rfl (by unfold maxLen; omega))) (by omega)) ?_))))))
    refine zd rfl (op_ldx rfl tO30ud (Sl.lab 31 rfl (by unfold maxLen; omega)) hhd (by rfl)) ?_
    refine za rfl (wl_nil (st_tn (w_region (zm rfl (zd rfl (op_val (v' := .slice (SL.sub a c p.1 1) ((pts.take p.2).drop p.1).length (c - p.1)) (by rw [hpt]; rfl) (op_move rfl)) ?_)))))
    refine zd rfl (op_fn Try.func39 rfl rfl rfl (fn_imp (costS (l := (pts.take p.2).drop p.1) (by rw [hpt]; exact (g.sub (by omega) (by omega)).app _) ⟨by omega, fun x hx => hb.val x (List.mem_of_mem_take (List.mem_of_mem_drop hx))⟩ (by omega)) (fun u ρ hu => (by exact hu : u = .int .i64 (segC pts p.1 p.2) ∧ ρ = [])))) ?_
    refine zd rfl (op_add' rfl rfl (by omega)) ?_
    refine za rfl (wl_nil (st_bn (st_tn (w_region (zd rfl (op_add' rfl rfl (by omega)) ?_)))))
    refine zm rfl (wl_nil ?_)
    refine st_roundQ (x := (tt, j)) ((tt + segC pts p.1 p.2, j + 1)) [31] rfl (rfl) (.cons rfl (.cons rfl (.nil _))) (.cons rfl (.cons rfl (.nil _))) (by
        try dsimp only
        refine ⟨by omega, ?_⟩; rw [take_snocS hps, List.sum_append, ht]; simp; omega) (by
        try dsimp only
        omega)
  · -- c34.f
    refine w_exit (st_te ?_)
    refine st_te ?_
    refine st_be (st_tn (w_seq (w_region (zm rfl (za rfl (za rfl (wl_nil (st_tn (w_ret (st_ret (vs := [_, _]) [] Try.results20 ⟨rfl, ⟨rfl, trivial⟩⟩ rfl ?_))))))))))
    refine ⟨_, rfl, ?_⟩
    have hjn : j = cuts.length + 1 := by omega
    rw [hjn, List.take_of_length_le (by rw [List.length_map]; omega), hsum] at ht
    rw [ht]; exact ⟨rfl, rfl⟩
def aftV (x : BstV) (s : Nat) (cost : Int) (a : Option Addr) (c : Nat) : BstV := ⟨x.tot + cost, a, c, if s > 0 then x.cuts ++ [(s : Int)] else x.cuts⟩
set_option maxHeartbeats 600000 in
set_option maxRecDepth 100000 in
theorem afterS {σ : World} {F : List Res} {x : BstV} {s : Nat} (cost : Int) (lab : Nat) (g : Sl σ F SL.encZ 1 (.slice x.a x.cuts.length x.c) x.cuts) (hl : x.cuts.length ≤ 1000) (hx : -1000000000 ≤ x.tot ∧ x.tot ≤ 1000000000) (hc : -1000000000 ≤ cost ∧ cost ≤ 1000000000) :
    FnT Try.prog σ F 41 [.agg (encBst x).toArray, .int .i64 s, .int .i64 cost] [] (fun u ρ => ∃ (a : Option Addr) (c : Nat), (s = 0 → a = x.a ∧ c = x.c) ∧ u = .agg (encBst (aftV x s cost a c)).toArray ∧ ρ = [(lab, slW 3 SL.encZ 1 (if s > 0 then .slice a (x.cuts.length + 1) c else .slice none 0 0) (if s > 0 then x.cuts ++ [(s : Int)] else []))]) := by
  refine fn_of 25 Try.func41 rfl Try.ntmps41 rfl ?_
  refine w_seq (w_region (wl_op [] rfl rfl rfl rfl (op_box (T := 97) (l := 3) rfl) ?_))
  rintro _ _ ⟨b3, rfl, rfl⟩
  refine wl_op [] rfl rfl rfl rfl (op_alloc (l := 6) tN97ud) ?_
  rintro _ _ ⟨b6, rfl, rfl⟩
  refine wl_nil (st_tn (w_seq (w_region (zd rfl (op_fieldAddr (off := 0) rfl tF97_0ud) (zd rfl (op_load1 rfl tO3ud (Ent.lab (l := 3) rfl (says_cel 0))) (zm rfl (zd rfl (op_add' rfl rfl (by omega)) ?_)))))))
  refine zd rfl (op_fieldAddr (off := 1) rfl tF97_1ud) (zd rfl (op_load1 rfl tO30ud (Ent.lab (l := 3) rfl (says_cel 1))) (zd rfl (op_build tB97ud rfl rfl) (wl_op [] rfl rfl rfl rfl (op_alloc (l := 7) tN97ud) ?_)))
  rintro _ _ ⟨b7, rfl, rfl⟩
  refine wl_op0 [7] rfl rfl rfl (op_store rfl rfl tZ97ud (by rfl) (by rfl) (by exact Nat.le_of_ble_eq_true rfl)) ?_
  rintro _ _ ⟨rfl, rfl⟩
  refine wl_nil (st_tn (w_seq (w_seq (w_region (zm rfl (zd rfl (op_gtr rfl rfl) (wl_nil (st_tn (w_cond_d rfl (fun hc16 => ?_) (fun hc16 => ?_))))))))))
  · -- c16.t
    refine w_region (zd rfl (op_fieldAddr (off := 1) rfl tF97_1ud) (zd rfl (op_load1 rfl tO30ud (Ent.lab (l := 3) rfl (says_cel 1))) (wl_op [] rfl rfl rfl rfl (op_fn Try.func43 rfl rfl rfl (cloneI 19 (g.app _) (by omega))) ?_)))
    rintro _ _ ⟨a19, c19, rfl, rfl⟩
    refine zm rfl (wl_op [] rfl rfl rfl rfl (op_buildSlice (enc := SL.encZ) (l := [(s : Int)]) (lab := 21) tL30_1ud rfl rfl (fun _ => rfl) rfl) ?_)
    rintro _ _ ⟨a21, c21, rfl, rfl⟩
    refine wl_op [19] rfl rfl rfl rfl (op_append (lab := 19) (lab' := 22) rfl rfl tP30ud SL.enc1Z (Sl.lab 21 rfl (by simp [maxLen])) (by first | omega | (simp; done) | (simp; omega) | (simp [*]; omega)) (by first | omega | (simp; done) | (simp; omega) | (simp [*]; omega))) ?_
    rintro _ _ ⟨a22, c22, rfl, rfl⟩
    refine zd rfl (op_fieldAddr (off := 1) rfl tF97_1ud) (wl_op0 [7] rfl rfl rfl (op_store rfl rfl tZ30ud (by rfl) (by rfl) (by exact Nat.le_of_ble_eq_true rfl)) ?_)
    rintro _ _ ⟨rfl, rfl⟩
    refine wl_nil (st_tn (w_seq ?_))
    have hs : s > 0 := by omega
    have hA : encBst (aftV x s cost a22 c22) = [.int .i64 (x.tot + cost), .slice a22 (x.cuts ++ [(s : Int)]).length c22] := by unfold aftV encBst; dsimp only; rw [if_pos hs]
    refine w_wk 7 (cel b7 (encBst (aftV x s cost a22 c22)) 97) rfl (fun _ h => by rw [hA]; exact h) ?_
    refine w_cls [22] (A := [(22, slW 3 SL.encZ 1 (.slice a22 (x.cuts ++ [(s : Int)]).length c22) (x.cuts ++ [(s : Int)]))]) (C := [(22, slW 3 SL.encZ 1 (if s > 0 then .slice a22 (x.cuts.length + 1) c22 else .slice none 0 0) (if s > 0 then x.cuts ++ [(s : Int)] else []))]) (fun F w h => by rw [if_pos hs, if_pos hs]; rw [List.length_append] at h; exact h) rfl ?_
    refine w_region (zd rfl (op_loadA rfl tA97ud (Ent.lab (l := 7) rfl (says_cel 0)) (Nat.le_of_ble_eq_true rfl)) (wl_op0 [6] rfl rfl rfl (op_store rfl rfl tZ97ud (by rfl) (by rfl) (by exact Nat.le_of_ble_eq_true rfl)) ?_))
    rintro _ _ ⟨rfl, rfl⟩
    refine wl_nil (st_tn (w_ret (st_ret (vs := [_]) [22] Try.results41 ⟨⟨_, rfl, Ent.mono (Ent.lab (l := 6) rfl (says_cel 0)) (fun _ h => run_load_agg tA97ud h (Nat.le_of_ble_eq_true rfl))⟩, trivial⟩ rfl ?_)))
    refine ⟨[(lab, _)], rfl, ?_⟩
    exact ⟨a22, c22, fun h => absurd h (by omega), rfl, rfl⟩
  · -- c16.f
    refine w_emp 22 (slO_nil 3 1) ?_
    refine w_skip (st_tn (w_seq ?_))
    have hs : ¬ s > 0 := by omega
    have hA : encBst (aftV x s cost x.a x.c) = [.int .i64 (x.tot + cost), .slice x.a x.cuts.length x.c] := by unfold aftV encBst; dsimp only; rw [if_neg hs]
    refine w_wk 7 (cel b7 (encBst (aftV x s cost x.a x.c)) 97) rfl (fun _ h => by rw [hA]; exact h) ?_
    refine w_cls [22] (A := [(22, slW 3 SL.encZ 1 (.slice none 0 0) [])]) (C := [(22, slW 3 SL.encZ 1 (if s > 0 then .slice x.a (x.cuts.length + 1) x.c else .slice none 0 0) (if s > 0 then x.cuts ++ [(s : Int)] else []))]) (fun F w h => by rw [if_neg hs, if_neg hs]; exact h) rfl ?_
    refine w_region (zd rfl (op_loadA rfl tA97ud (Ent.lab (l := 7) rfl (says_cel 0)) (Nat.le_of_ble_eq_true rfl)) (wl_op0 [6] rfl rfl rfl (op_store rfl rfl tZ97ud (by rfl) (by rfl) (by exact Nat.le_of_ble_eq_true rfl)) ?_))
    rintro _ _ ⟨rfl, rfl⟩
    refine wl_nil (st_tn (w_ret (st_ret (vs := [_]) [22] Try.results41 ⟨⟨_, rfl, Ent.mono (Ent.lab (l := 6) rfl (says_cel 0)) (fun _ h => run_load_agg tA97ud h (Nat.le_of_ble_eq_true rfl))⟩, trivial⟩ rfl ?_)))
    refine ⟨[(lab, _)], rfl, ?_⟩
    exact ⟨x.a, x.c, fun _ => ⟨rfl, rfl⟩, rfl, rfl⟩
set_option maxHeartbeats 600000 in
set_option maxRecDepth 100000 in
theorem betterS {σ : World} {F : List Res} {x y : BstV} (g : Sl σ F SL.encZ 1 (.slice x.a x.cuts.length x.c) x.cuts) (h : Sl σ F SL.encZ 1 (.slice y.a y.cuts.length y.c) y.cuts) :
    FnT Try.prog σ F 42 [.agg (encBst x).toArray, .agg (encBst y).toArray] [] (fun u ρ => u = .bool (btr (keyB x) (keyB y)) ∧ ρ = []) := by
  refine fn_of 35 Try.func42 rfl Try.ntmps42 rfl ?_
  have hle1 := g.i64
  have hle2 := h.i64
  refine w_seq (w_region (wl_op [] rfl rfl rfl rfl (op_box (T := 97) (l := 2) rfl) ?_))
  rintro _ _ ⟨b2, rfl, rfl⟩
  refine wl_op [] rfl rfl rfl rfl (op_box (T := 97) (l := 3) rfl) ?_
  rintro _ _ ⟨b3, rfl, rfl⟩
  refine za rfl (wl_nil (st_tn (w_seq (w_seq (w_region (zd rfl (op_fieldAddr (off := 0) rfl tF97_0ud) (zd rfl (op_load1 rfl tO3ud (Ent.lab (l := 2) rfl (says_cel 0))) (zd rfl (op_fieldAddr (off := 0) rfl tF97_0ud) (zd rfl (op_load1 rfl tO3ud (Ent.lab (l := 3) rfl (says_cel 0))) (zd rfl (op_neq rfl rfl) (wl_nil (st_tn (w_cond_d rfl (fun hc9 => ?_) (fun hc9 => ?_))))))))))))))
  · -- c9.t
    refine w_seq (w_region (zd rfl (op_fieldAddr (off := 0) rfl tF97_0ud) (zd rfl (op_load1 rfl tO3ud (Ent.lab (l := 2) rfl (says_cel 0))) (zd rfl (op_fieldAddr (off := 0) rfl tF97_0ud) (zd rfl (op_load1 rfl tO3ud (Ent.lab (l := 3) rfl (says_cel 0))) (zd rfl (op_lss rfl rfl) (za rfl (wl_nil (st_tn (w_ret (st_tr (st_ret (vs := [_]) [] Try.results42 ⟨rfl, trivial⟩ rfl ?_))))))))))))
    refine ⟨_, rfl, ?_⟩
    refine ⟨?_, rfl⟩
    unfold btr keyB; dsimp only; rw [if_pos hc9]; rfl
  · -- c9.f
    refine w_skip (st_tn (w_seq (w_seq (w_region (zd rfl (op_fieldAddr (off := 1) rfl tF97_1ud) (zd rfl (op_load1 rfl tO30ud (Ent.lab (l := 2) rfl (says_cel 1))) (zd rfl (op_lenT rfl tS30ud (Sl.ent (g.app _))) (zd rfl (op_fieldAddr (off := 1) rfl tF97_1ud) (zd rfl (op_load1 rfl tO30ud (Ent.lab (l := 3) rfl (says_cel 1))) (zd rfl (op_lenT rfl tS30ud (Sl.ent (h.app _))) (zd rfl (op_neq rfl rfl) (wl_nil (st_tn ?_)))))))))))))
    refine w_cond_d rfl (fun hc21 => ?_) (fun hc21 => ?_)
    · -- c21.t
      refine w_seq (w_region (zd rfl (op_fieldAddr (off := 1) rfl tF97_1ud) (zd rfl (op_load1 rfl tO30ud (Ent.lab (l := 2) rfl (says_cel 1))) (zd rfl (op_lenT rfl tS30ud (Sl.ent (g.app _))) (zd rfl (op_fieldAddr (off := 1) rfl tF97_1ud) (zd rfl (op_load1 rfl tO30ud (Ent.lab (l := 3) rfl (says_cel 1))) (zd rfl (op_lenT rfl tS30ud (Sl.ent (h.app _))) (zd rfl (op_lss rfl rfl) (za rfl (wl_nil (st_tn (w_ret (st_tr ?_)))))))))))))
      refine st_ret (vs := [_]) [] Try.results42 ⟨rfl, trivial⟩ rfl ?_
      refine ⟨_, rfl, ?_⟩
      refine ⟨?_, rfl⟩
      unfold btr keyB; dsimp only; rw [if_neg hc9, if_pos (by omega)]
      show Value.bool _ = _
      congr 1
      rw [decide_eq_decide]; omega
    · -- c21.f
      refine w_skip (st_tn (w_seq (w_region (zd rfl (op_fieldAddr (off := 1) rfl tF97_1ud) (zd rfl (op_load1 rfl tO30ud (Ent.lab (l := 2) rfl (says_cel 1))) (zd rfl (op_fieldAddr (off := 1) rfl tF97_1ud) (zd rfl (op_load1 rfl tO30ud (Ent.lab (l := 3) rfl (says_cel 1))) (zd rfl (op_fn Try.func60 rfl rfl rfl (cmpI (g.app _) (h.app _))) (zd rfl (op_lss rfl rfl) (za rfl (wl_nil (st_tn (w_ret ?_)))))))))))))
      refine st_ret (vs := [_]) [] Try.results42 ⟨rfl, trivial⟩ rfl ?_
      refine ⟨_, rfl, ?_⟩
      refine ⟨?_, rfl⟩
      unfold btr keyB; dsimp only; rw [if_neg hc9, if_neg (by omega)]; rfl
def idxZ : Option Nat → Int
  | some i => i
  | none => -1
set_option maxHeartbeats 400000 in
set_option maxRecDepth 100000 in
theorem indexFuncM {σ : World} {F : List Res} {a : Option Addr} {c : Nat} {rl : List Int} {g : Nat} {gn : Func} {fs cs : List Value} {p : Int → Bool} (h : Sl σ F SL.encZ 1 (.slice a rl.length c) rl)
    (hg : Try.prog.funcs[g]? = some gn) (hgb : gn.body.isSome = true) (hgn : (gn.name == "runtime.NumGoroutine") = false) (hp : ∀ (X : List Res), ∀ r ∈ rl, FnT Try.prog σ (X ++ F) g (fs ++ [.int .i64 r] ++ cs) [] (fun u ρ => u = .bool (p r) ∧ ρ = [])) :
    FnT Try.prog σ F 68 [.slice a rl.length c, .func (.func g) fs.toArray cs.toArray] [] (fun u ρ => u = .int .i64 (idxZ (rl.findIdx? p)) ∧ ρ = []) := by
  refine fn_of 19 Try.func68 rfl Try.ntmps68 rfl ?_
  have hle := h.i64
  refine w_seq (w_region (za rfl (wl_nil (st_tn (w_seq (w_seq (w_region (zm rfl (zd rfl (op_lenT rfl tS30ud (Sl.ent (by first | exact Sl.app (by assumption) _ | exact Sl.app (Sl.app (by assumption) _) _))) ?_)))))))))
  refine zm rfl (wl_nil (st_tn (w_block ?_)))
  refine w_loopQ (X := Nat) (fun z => z ≤ rl.length ∧ ∀ r ∈ rl.take z, p r = false) (fun z => [(8, .int .i64 (z))]) (fun _ => []) (fun z => rl.length - z) (0) [(0, _), (1, _), (7, _)] [] [] rfl (rfl) (.cons rfl (.nil _)) (.cons rfl (.cons rfl (.cons rfl (.nil _)))) (by
      try dsimp only
      exact ⟨Nat.zero_le _, by simp⟩) ?_
  rintro i ⟨hi, hn⟩
  refine w_norm2 (by dsimp only [List.cons_append, List.nil_append]) (by dsimp only [List.cons_append, List.nil_append]) ?_
  try dsimp only at hi hn ⊢
  refine w_seq (w_region (zd rfl (op_lss rfl rfl) (wl_nil (st_tn (w_seq (w_cond_d rfl (fun hc9 => ?_) (fun hc9 => ?_)))))))
  · -- c9.t
    obtain ⟨r, hr⟩ := getE (l := rl) (i := i) (by omega)
    have hlt := ltE hr
    refine w_skip (st_tn (w_seq (w_block (w_seq (w_region (zm rfl (za rfl (wl_nil (st_tn (w_seq (w_region (zm rfl (zm rfl ?_)))))))))))))
    refine zm rfl (zd rfl (op_idx rfl rfl tS30ud (Sl.ent (by first | exact Sl.app (by assumption) _ | exact Sl.app (Sl.app (by assumption) _) _)) (by omega)) ?_)
    refine zd rfl (op_ldx rfl tO3ud (by first | exact Sl.app (by assumption) _ | exact Sl.app (Sl.app (by assumption) _) _) (by assumption) (by rfl)) ?_
    refine zd rfl (op_fnv hg hgb hgn rfl rfl (hp _ r (List.mem_of_getElem? hr))) ?_
    refine wl_nil (st_tn (w_cond rfl (fun hc16 => ?_) (fun hc16 => ?_)))
    · -- c16.t
      refine w_seq (w_region (zm rfl (za rfl (wl_nil (st_tn (w_ret (st_br (st_tr (st_tr (st_br (st_tr (st_ret (vs := [_]) [] Try.results68 ⟨rfl, trivial⟩ rfl ?_))))))))))))
      refine ⟨_, rfl, ?_⟩
      refine ⟨?_, rfl⟩
      have : rl.findIdx? p = some i := by
        rw [List.findIdx?_eq_some_iff_getElem]
        obtain ⟨hlt', hge⟩ := List.getElem?_eq_some_iff.1 hr
        refine ⟨hlt', by rw [hge]; exact hc16, fun j hj => ?_⟩
        rw [hn _ (List.mem_take_iff_getElem.2 ⟨j, by omega, rfl⟩)]; simp
      rw [this]; rfl
    · -- c16.f
      refine w_skip (st_bn (st_tn (w_region (zd rfl (op_add' rfl rfl (by omega)) ?_))))
      refine zm rfl (wl_nil ?_)
      refine st_roundQ (x := i) (i + 1) [] rfl (rfl) (.cons rfl (.nil _)) (.cons rfl (.cons rfl (.cons rfl (.nil _)))) (by
          try dsimp only
          refine ⟨by omega, by rw [take_snocS hr]; intro q hq; rcases List.mem_append.1 hq with hq | hq; (· exact hn q hq); (· simp at hq; subst hq; exact hc16)⟩) (by
          try dsimp only
          omega)
  · -- c9.f
    refine w_exit (st_te ?_)
    refine st_te ?_
    refine st_be (st_tn (w_seq (w_region (za rfl (wl_nil (st_tn (w_ret (st_ret (vs := [_]) [] Try.results68 ⟨rfl, trivial⟩ rfl ?_))))))))
    refine ⟨_, rfl, ?_⟩
    refine ⟨?_, rfl⟩; rw [take_allS (by omega)] at hn
    have : rl.findIdx? p = none := by rw [List.findIdx?_eq_none_iff]; exact hn
    rw [this]; rfl
end Go.Proofs.Ytecmigildpkigaa
namespace Go.Proofs.Ytecmigildpkigaa
open Go Go.SL Go.RowKit Go.SegP
set_option linter.unusedVariables false
set_option linter.unusedSimpArgs false
theorem tO3ue : oneB Try.prog 3 = true := by kernel_rfl
theorem tS30ue : sliceB Try.prog 30 3 1 = true := by kernel_rfl
theorem own_addrS {a : Option Addr} {n c : Nat} {l : List Int} : Says (slW 3 SL.encZ 1 (.slice a n c) l) (fun _ => l ≠ [] → ∃ g0 : Nat, a = some ⟨g0, 0, none⟩ ∧ l.length ≤ c ∧ c ≤ maxLen) := fun m w h hs hne => by
  obtain ⟨_, _, q⟩ := Go.SL.ints_at h hs
  rcases q with ⟨_, h, _⟩ | ⟨g0, cur, h1, _, _, h2, h3, _⟩
  · exact absurd h hne
  · exact ⟨g0, h1, h2, h3⟩
theorem zero3 : ∀ i z, Try.prog.info? 3 = some i → i.zero = some z → z = .int .i64 0 := fun i z hi hz => by
  have h : (Try.prog.info? 3).bind (·.zero) = some (.int .i64 0) := by kernel_rfl
  rw [hi] at h
  simp only [Option.bind_some, hz, Option.some.injEq] at h
  exact h
theorem tPz : appB Try.prog 30 3 1 8 = true := by kernel_rfl
theorem filter_snoc {l : List Int} {j : Nat} {v : Int} (p : Int → Bool) (h : l[j]? = some v) : (l.take (j + 1)).filter p = (l.take j).filter p ++ (if p v = true then [v] else []) := by
  rw [take_snocS h, List.filter_append]
  congr 1
  by_cases hp : p v = true
  · simp [hp]
  · simp [hp]
theorem filter_start {l : List Int} {i : Nat} {p : Int → Bool} (h : l.findIdx? p = some i) : i < l.length ∧ (l.take (i + 1)).filter (fun x => !p x) = l.take i := by
  rw [List.findIdx?_eq_some_iff_getElem] at h
  obtain ⟨h1, h2, h3⟩ := h
  refine ⟨h1, ?_⟩
  rw [filter_snoc (v := l[i]) _ (List.getElem?_eq_getElem h1), if_neg (by simp [h2]), List.append_nil]
  rw [List.filter_eq_self]
  intro x hx
  obtain ⟨j, hj, rfl⟩ := List.mem_take_iff_getElem.1 hx
  have := h3 j (by omega)
  simpa using this
abbrev LIn := List Int
set_option maxHeartbeats 1000000 in
set_option maxRecDepth 100000 in
theorem delFuncI {σ : World} {F : List Res} {a : Option Addr} {c : Nat} {l : List Int} {g : Nat} {gn : Func} {fs cs : List Value} {p : Int → Bool} (lab : Nat) (hl : l.length ≤ 1099511627776)
    (hg : Try.prog.funcs[g]? = some gn) (hgb : gn.body.isSome = true) (hgn : (gn.name == "runtime.NumGoroutine") = false) (hp : ∀ (X : List Res), ∀ r ∈ l, FnT Try.prog σ (X ++ F) g (fs ++ [.int .i64 r] ++ cs) [] (fun u ρ => u = .bool (p r) ∧ ρ = [])) :
    FnT Try.prog σ F 54 [.slice a l.length c, .func (.func g) fs.toArray cs.toArray] [(600, slW 3 SL.encZ 1 (.slice a l.length c) l)] (NewI (l.filter fun x => !p x) lab) := by
  refine fn_of 42 Try.func54 rfl Try.ntmps54 rfl ?_
  refine Exists.elim (⟨_, rfl⟩ : ∃ o, o = l.findIdx? p) (fun o ho => ?_)
  refine w_seq (w_region (za rfl (wl_nil (st_tn (w_seq (w_region (zm rfl (zm rfl (zd rfl (op_fn Try.func68 rfl rfl rfl (fn_imp (indexFuncM (Sl.lab 600 rfl (by unfold maxLen; omega)) hg hgb hgn (fun X r hr => by have := hp (X ++ rs [(600, slW 3 SL.encZ 1 (.slice a l.length c) l)]) r hr; rwa [List.append_assoc] at this)) (fun u ρ hu => (by rw [← ho] at hu; exact hu : u = .int .i64 (idxZ o) ∧ ρ = [])))) ?_)))))))))
  refine za rfl (wl_nil (st_tn (w_seq (w_seq (w_region (zm rfl (zd rfl (op_eql rfl rfl) (wl_nil (st_tn (w_cond_d rfl (fun hc12 => ?_) (fun hc12 => ?_)))))))))))
  · -- c12.t
    have hnone : o = none := by
      cases o with
      | none => rfl
      | some i => exact absurd (show ((i : Nat) : Int) = -1 from hc12) (by omega)
    refine w_seq (w_region (zm rfl (za rfl (wl_nil (st_tn (w_ret (st_tr (st_ret (vs := [_]) [600] Try.results54 ⟨rfl, trivial⟩ rfl ?_))))))))
    refine ⟨[(lab, _)], rfl, ?_⟩
    have hf : l.filter (fun x => !p x) = l := by
      rw [hnone] at ho
      have := ho.symm
      rw [List.findIdx?_eq_none_iff] at this
      rw [List.filter_eq_self]
      intro x hx
      simp [this x hx]
    unfold NewI
    rw [hf]
    exact ⟨a, c, rfl, rfl⟩
  · -- c12.f
    refine Exists.elim (show ∃ i, o = some i by
        cases o with
        | none => exact absurd rfl hc12
        | some i => exact ⟨i, rfl⟩) (fun i0 hi0 => ?_)
    subst hi0
    obtain ⟨hi0l, hf0⟩ := filter_start ho.symm
    refine w_fact (Ent.lab (l := 600) rfl own_addrS) (fun hq => ?_)
    obtain ⟨g0, rfl, hlc, hcm⟩ := hq (List.ne_nil_of_length_pos (by omega))
    refine w_skip (st_tn (w_seq (w_seq (w_region (zd rfl (op_val (v' := .int .i64 ((i0 : Nat) : Int)) (by rfl) (op_move rfl)) ?_)))))
    refine zd rfl (op_add' rfl rfl (by omega)) ?_
    refine za rfl (wl_nil (st_tn (w_block ?_)))
    refine w_loopQ (X := LIn × Nat × Nat) (fun z => ((z.2.1 < z.2.2 ∧ z.2.2 ≤ l.length) ∧ z.1.length = l.length) ∧ z.1.take z.2.1 = (l.take z.2.2).filter (fun x => !p x) ∧ z.1.drop z.2.2 = l.drop z.2.2) (fun z => [(5, .int .i64 (z.2.1)), (6, .int .i64 (z.2.2))]) (fun z => [(600, slW 3 SL.encZ 1 (.slice (some ⟨g0, 0, none⟩) l.length c) (z.1))]) (fun z => l.length - z.2.2) ((l, i0, i0 + 1)) [(0, _), (1, _)] [] [600] rfl (rfl) (.cons rfl (.cons rfl (.nil _))) (.cons rfl (.cons rfl (.nil _))) (by
        try dsimp only
        exact ⟨⟨⟨by omega, by omega⟩, rfl⟩, hf0.symm, rfl⟩) ?_
    rintro ⟨m, i, j⟩ ⟨⟨hij, hml⟩, hm1, hm2⟩
    refine w_norm2 (by dsimp only [List.cons_append, List.nil_append]) (by dsimp only [List.cons_append, List.nil_append]) ?_
    try dsimp only at hij hml hm1 hm2 ⊢
    refine w_seq (w_seq (w_region (zm rfl (zm rfl (zd rfl (op_val (v' := .int .i64 ((l.length : Nat) : Int)) (by rw [hml]) (op_lenT rfl tS30ue (Sl.ent (Sl.lab 600 rfl (by rw [hml]; unfold maxLen; omega))))) ?_)))))
    refine zd rfl (op_lss rfl rfl) (wl_nil (st_tn (w_cond_d rfl (fun hc19 => ?_) (fun hc19 => ?_))))
    · -- c19.t
      obtain ⟨v, hv⟩ := getE (l := l) (i := j) (by omega)
      have hvm : m[j]? = some v := by
        have h9 : (m.drop j)[0]? = (l.drop j)[0]? := by rw [hm2]
        rw [List.getElem?_drop, List.getElem?_drop] at h9
        rw [Nat.add_zero] at h9
        rw [h9]; exact hv
      obtain ⟨w0, hw0⟩ := getE (l := m) (i := i) (by omega)
      refine w_skip (st_tn (w_seq (w_block (w_seq (w_region (zm rfl (zm rfl (zd rfl (op_idx rfl rfl tS30ue (Sl.ent (Sl.lab 600 rfl (by rw [hml]; unfold maxLen; omega))) (by omega)) ?_))))))))
      refine zd rfl (op_ldx rfl tO3ue (Sl.lab 600 rfl (by rw [hml]; unfold maxLen; omega)) hvm (by rfl)) ?_
      refine za rfl (wl_nil (st_tn (w_seq (w_region (zm rfl (zm rfl (zd rfl (op_fnv hg hgb hgn rfl rfl (fn_imp (hp _ v (List.mem_of_getElem? hv)) (fun u ρ hu => (⟨by rw [hu.1]; simp, hu.2⟩ : u = .bool (decide (p v = true)) ∧ ρ = [])))) ?_)))))))
      refine zd rfl (op_not_d rfl) (wl_nil (st_tn (w_cond_d rfl (fun hc29 => ?_) (fun hc29 => ?_))))
      · -- c29.t
        refine w_seq (w_region (zm rfl (zm rfl (zm rfl (zd rfl (op_idx rfl rfl tS30ue (Sl.ent (Sl.lab 600 rfl (by rw [hml]; unfold maxLen; omega))) (by omega)) ?_)))))
        refine wl_op0 [600] rfl rfl rfl (op_storeX (lab := 600) (j := 0) rfl rfl tO3ue rfl rfl (by rfl) (by first | assumption | (simp [*]; done)) (Nat.le_of_ble_eq_true rfl) (by rfl)) ?_
        rintro _ _ ⟨rfl, rfl⟩
        refine wl_nil (st_tn (w_region (zm rfl (zd rfl (op_add' rfl rfl (by omega)) ?_))))
        refine za rfl (wl_nil (st_bn (st_tn (w_region (zm rfl (zd rfl (op_add' rfl rfl (by omega)) ?_))))))
        refine za rfl (wl_nil ?_)
        refine st_roundQ (x := (m, i, j)) ((m.set i v, i + 1, j + 1)) [600] rfl (rfl) (.cons rfl (.cons rfl (.nil _))) (.cons rfl (.cons rfl (.nil _))) (by
            try dsimp only
            refine ⟨⟨⟨by omega, by omega⟩, by rw [List.length_set]; exact hml⟩, ?_, ?_⟩
            · rw [filter_snoc _ hv, if_pos (by simpa using hc29), ← hm1, List.take_add_one, List.getElem?_set_self (by omega), List.take_set_of_le (Nat.le_refl _)]; rfl
            · rw [List.drop_set_of_lt (by omega), ← List.drop_drop, hm2, List.drop_drop]) (by
            try dsimp only
            omega)
      · -- c29.f
        refine w_skip (st_bn (st_tn (w_region (zm rfl (zd rfl (op_add' rfl rfl (by omega)) ?_)))))
        refine za rfl (wl_nil ?_)
        refine st_roundQ (x := (m, i, j)) ((m, i, j + 1)) [600] rfl (rfl) (.cons rfl (.cons rfl (.nil _))) (.cons rfl (.cons rfl (.nil _))) (by
            try dsimp only
            refine ⟨⟨⟨by omega, by omega⟩, hml⟩, ?_, ?_⟩
            · rw [filter_snoc _ hv, if_neg (by simpa using hc29), List.append_nil, ← hm1]
            · rw [← List.drop_drop, hm2, List.drop_drop]) (by
            try dsimp only
            omega)
    · -- c19.f
      refine w_exit (st_te ?_)
      refine st_te ?_
      refine st_be (st_tn (w_seq ?_))
      have hjl : j = l.length := by omega
      rw [hjl, List.take_of_length_le (Nat.le_refl _)] at hm1
      refine w_region (zm rfl (zm rfl ?_))
      refine zd rfl (op_val (v' := .slice (some ⟨g0, i, none⟩) (l.length - i) (c - i)) (by
            have hci : ¬ c = i := by omega
            rw [hml]; simp [SL.sub, hci, Addr.add_mid]) (op_sliceL rfl rfl tS30ue (Sl.lab (l := m) 600 rfl (by rw [hml]; unfold maxLen; omega)) (by omega))) ?_
      refine wl_op0 [600] rfl rfl rfl (op_clearZ (m := i) rfl tPz hml (by omega) zero3) ?_
      rintro _ _ ⟨rfl, rfl⟩
      refine wl_nil (st_tn (w_seq ?_))
      have hlz : (m.take i ++ List.replicate (m.length - i) (0 : Int)).length = l.length := by rw [List.length_append, List.length_take, List.length_replicate]; omega
      have hmt : (m.take i ++ List.replicate (m.length - i) (0 : Int)).take i = l.filter (fun x => !p x) := by
        rw [List.take_left' (by rw [List.length_take]; omega)]; exact hm1
      have hfl : (l.filter (fun x => !p x)).length = i := by rw [← hmt, List.length_take]; omega
      refine w_region (zm rfl (zm rfl (zd rfl (op_val (v' := .slice (some ⟨g0, 0, none⟩) (l.filter (fun x => !p x)).length c) (show Value.slice (SL.sub (some ⟨g0, 0, none⟩) c 0 1) (i - 0) (c - 0) = _ by rw [sub_zeroS, Nat.sub_zero, Nat.sub_zero, hfl]) (op_sliceR (l := m.take i ++ List.replicate (m.length - i) (0 : Int)) rfl rfl tS30ue (Sl.lab 600 rfl (by unfold maxLen; omega)) (by omega))) ?_)))
      refine za rfl (wl_nil (st_tn (w_cls [600] (A := [(600, slW 3 SL.encZ 1 (.slice (some ⟨g0, 0, none⟩) l.length c) (m.take i ++ List.replicate (m.length - i) 0))]) (C := [(600, slW 3 SL.encZ 1 (.slice (some ⟨g0, 0, none⟩) ((m.take i ++ List.replicate (m.length - i) (0 : Int)).take i).length c) ((m.take i ++ List.replicate (m.length - i) (0 : Int)).take i))]) (cls_cut i (by omega)) rfl ?_)))
      rw [hmt]
      refine w_ret (st_ret (vs := [_]) [600] Try.results54 ⟨rfl, trivial⟩ rfl ?_)
      refine ⟨[(lab, _)], rfl, ?_⟩
      exact ⟨_, _, rfl, rfl⟩
end Go.Proofs.Ytecmigildpkigaa
namespace Go.Proofs.Ytecmigildpkigaa
open Go Go.SL Go.RowKit Go.SegP
set_option linter.unusedVariables false
set_option linter.unusedSimpArgs false
theorem tF97_0uf : fieldB Try.prog 97 0 0 = true := by kernel_rfl
theorem tMixuf : Try.prog.follows .mixedOrders = true := by kernel_rfl
theorem tO3uf : oneB Try.prog 3 = true := by kernel_rfl
theorem tO30uf : oneB Try.prog 30 = true := by kernel_rfl
theorem tO92uf : oneB Try.prog 92 = true := by kernel_rfl
theorem tS30uf : sliceB Try.prog 30 3 1 = true := by kernel_rfl
theorem tS92uf : sliceB Try.prog 92 97 2 = true := by kernel_rfl
abbrev PZ := List (Value × List Int)
def poolZ (P : PZ) : Res := pool 3 SL.encZ 1 P
def InZ (P : PZ) (x : BstV) : Prop := (Value.slice x.a x.cuts.length x.c, x.cuts) ∈ P
theorem InZ.sl {σ : World} {R : RL} {F : List Res} {P : PZ} {x : BstV} (h : InZ P x) (lab : Nat) (hg : getL R lab = some (poolZ P)) (hl : x.cuts.length ≤ 1000) : Sl σ (rs R ++ F) SL.encZ 1 (.slice x.a x.cuts.length x.c) x.cuts := Sl.pool lab hg h (by unfold maxLen; omega)
theorem InZ.more {P : PZ} {x : BstV} (h : InZ P x) (q : Value × List Int) : InZ (q :: P) x := List.mem_cons_of_mem _ h
theorem InZ.aft {P : PZ} {x : BstV} {s : Nat} {cost : Int} {a : Option Addr} {c : Nat} (h : InZ P x) (hs : s = 0 → a = x.a ∧ c = x.c) : InZ (((if s > 0 then Value.slice a (x.cuts.length + 1) c else .slice none 0 0), (if s > 0 then x.cuts ++ [(s : Int)] else [])) :: P) (aftV x s cost a c) := by
  unfold InZ aftV
  dsimp only
  by_cases h0 : s > 0
  · rw [if_pos h0, if_pos h0, if_pos h0, List.length_append]; exact List.mem_cons_self
  · rw [if_neg h0, if_neg h0, if_neg h0]
    obtain ⟨rfl, rfl⟩ := hs (by omega)
    exact List.mem_cons_of_mem _ h
def bst0 : BstV := ⟨0, none, 0, []⟩
theorem bst_cl (C : Nat → Nat → Int) (pen : Int) (prune : Bool) (t : Nat) : (bstN C pen prune t).2.length ≤ t := by
  cases t with
  | zero => simp [bst_zero]
  | succ t => have := cuts_len (bst_cuts C pen prune (t + 1) (by omega)).1; omega
theorem al_get {C : Nat → Nat → Int} {pen : Int} {prune : Bool} {k s : Nat} {al : List BstV} (hp : 0 ≤ pen ∧ pen ≤ 1000) (hC : ∀ s t, 0 ≤ C s t ∧ C s t ≤ 200000) (hk : k ≤ 100) (h : al.map keyB = (allN C pen prune k).1) (hs : s ≤ k) :
    ∃ x, al[s]? = some x ∧ keyB x = bstN C pen prune s ∧ (-1000 ≤ x.tot ∧ x.tot ≤ 20100000) ∧ x.cuts.length ≤ 100 := by
  have h1 := all_getS C pen prune hs
  rw [← h, List.getElem?_map] at h1
  cases hx : al[s]? with
  | none => rw [hx] at h1; simp at h1
  | some x =>
    rw [hx] at h1
    simp only [Option.map_some, Option.some.injEq] at h1
    have h2 := bst_bd hp hC prune s
    have h3 := bst_cl C pen prune s
    rw [← h1] at h2 h3
    have h2a : -1000 ≤ x.tot ∧ x.tot ≤ 201000 * s := h2
    have h3a : x.cuts.length ≤ s := h3
    exact ⟨x, rfl, h1, by omega, by omega⟩
set_option maxHeartbeats 600000 in
set_option maxRecDepth 100000 in
theorem solve1S {σ : World} {F : List Res} {q8 q12 q13 : Addr} {a8 a12 : Option Addr} {c8 c12 s : Nat} {al : List BstV} {co : List Int} {fnd x : BstV} {v : Int} (h8 : Ent σ F (At q8 [.slice a8 al.length c8])) (g8 : Sl σ F encBst 2 (.slice a8 al.length c8) al) (h12 : Ent σ F (At q12 [.slice a12 co.length c12])) (g12 : Sl σ F SL.encZ 1 (.slice a12 co.length c12) co) (h13 : Ent σ F (At q13 (encBst fnd)))
    (hx : al[s]? = some x) (hv : co[s]? = some v) (hb : -1000000000 ≤ x.tot ∧ x.tot ≤ 1000000000) (hb2 : -1000000000 ≤ v ∧ v ≤ 1000000000) :
    FnT Try.prog σ F 55 [.int .i64 s, .pointer (some q8), .pointer (some q12), .pointer (some q13)] [] (fun u ρ => u = .bool (decide (x.tot + v > fnd.tot)) ∧ ρ = []) := by
  refine fn_of 19 Try.func55 rfl Try.ntmps55 rfl ?_
  have hl1 := (List.getElem?_eq_some_iff.1 hx).1
  have hl2 := (List.getElem?_eq_some_iff.1 hv).1
  refine w_seq (w_region (za rfl (wl_nil (st_tn (w_seq ?_)))))
  refine w_drawW (fun β => [⟨6, [], [], [], noW (_), false, [], []⟩, ⟨7, [], [], [], noW (_), false, [], []⟩, ⟨8, [0, 1], [], [], noW (_), false, [], []⟩, ⟨9, [2], [], [], noW (_), false, [], []⟩, ⟨10, [3], [], [], noW (_), false, [], []⟩, ⟨11, [], [], [], noW (_), false, [], []⟩, ⟨12, [], [], [], noW (_), false, [], []⟩, ⟨13, [5, 6], [], [], noW (_), false, [], []⟩, ⟨14, [7], [], [], noW (_), false, [], []⟩, ⟨15, [4, 8], [], [], noW (_), false, [], []⟩, ⟨16, [], [], [], noW (_), false, [], []⟩, ⟨17, [10], [], [], noW (_), false, [], []⟩]) [] [1, 0, 2, 3] [⟨6, [], [], false, [], []⟩, ⟨7, [], [], false, [], []⟩, ⟨8, [0, 1], [], false, [], []⟩, ⟨9, [2], [], false, [], []⟩, ⟨10, [3], [], false, [], []⟩, ⟨11, [], [], false, [], []⟩, ⟨12, [], [], false, [], []⟩, ⟨13, [5, 6], [], false, [], []⟩, ⟨14, [7], [], false, [], []⟩, ⟨15, [4, 8], [], false, [], []⟩, ⟨16, [], [], false, [], []⟩, ⟨17, [10], [], false, [], []⟩] [[], [], [], [], [], [], [], [], [], [], [], []] [[], [], [], [], [], [], [], [], [], [], [], []] tMixuf (fun _ => by rfl) (fun _ => by rfl) (by kernel_rfl) (by kernel_rfl) (by rfl) (by rfl)
      (fun β => ⟨.p rfl (by intro X; exact op_load1 rfl tO92uf (Ent.app (Ent.app h8 X) _)),
      ⟨.p rfl (by intro X; exact op_move rfl),
      ⟨.p rfl (by intro X; rintro _ _ ⟨rfl, rfl⟩ _ _ ⟨rfl, rfl⟩; exact op_idx rfl rfl tS92uf (Sl.ent (Sl.app (Sl.app g8 X) _)) (by omega)),
      ⟨.p rfl (by intro X; rintro _ _ ⟨rfl, rfl⟩; exact op_fieldAddr (off := 0) rfl tF97_0uf),
      ⟨.p rfl (by intro X; rintro _ _ ⟨rfl, rfl⟩; exact op_ldxf rfl tO3uf (Sl.app (Sl.app g8 X) _) (by assumption) (by rfl)),
      ⟨.p rfl (by intro X; exact op_load1 rfl tO30uf (Ent.app (Ent.app h12 X) _)),
      ⟨.p rfl (by intro X; exact op_move rfl),
      ⟨.p rfl (by intro X; rintro _ _ ⟨rfl, rfl⟩ _ _ ⟨rfl, rfl⟩; exact op_idx rfl rfl tS30uf (Sl.ent (Sl.app (Sl.app g12 X) _)) (by omega)),
      ⟨.p rfl (by intro X; rintro _ _ ⟨rfl, rfl⟩; exact op_ldx rfl tO3uf (Sl.app (Sl.app g12 X) _) (by assumption) (by rfl)),
      ⟨.p rfl (by intro X; rintro _ _ ⟨rfl, rfl⟩ _ _ ⟨rfl, rfl⟩; exact op_add' rfl rfl (by omega)),
      ⟨.p rfl (by intro X; exact op_fieldAddr (off := 0) rfl tF97_0uf),
      ⟨.p rfl (by intro X; rintro _ _ ⟨rfl, rfl⟩; exact op_load1 rfl tO3uf (Ent.app (Ent.app (Ent.fld h13 0) X) _)),
      trivial⟩⟩⟩⟩⟩⟩⟩⟩⟩⟩⟩⟩)
      (fun β β' => ⟨fun _ => by rfl, ⟨fun _ => by rfl, ⟨fun _ => by rfl, ⟨fun _ => by rfl, ⟨fun _ => by rfl, ⟨fun _ => by rfl, ⟨fun _ => by rfl, ⟨fun _ => by rfl, ⟨fun _ => by rfl, ⟨fun _ => by rfl, ⟨fun _ => by rfl, ⟨fun _ => by rfl, trivial⟩⟩⟩⟩⟩⟩⟩⟩⟩⟩⟩⟩) ?_
  intro β
  rintro _ _ ⟨rfl, rfl⟩ _ _ ⟨rfl, rfl⟩ _ _ ⟨rfl, rfl⟩ _ _ ⟨rfl, rfl⟩ _ _ ⟨rfl, rfl⟩ _ _ ⟨rfl, rfl⟩ _ _ ⟨rfl, rfl⟩ _ _ ⟨rfl, rfl⟩ _ _ ⟨rfl, rfl⟩ _ _ ⟨rfl, rfl⟩ _ _ ⟨rfl, rfl⟩ _ _ ⟨rfl, rfl⟩
  refine wl_norm (e' := [(15, _), (17, _)]) (.cons rfl (.cons rfl (.nil _))) (by dsimp only [cond_false, cond_true, List.nil_append, List.cons_append]) ?_
  refine zd rfl (op_gtr rfl rfl) (za rfl (wl_nil (st_tn (w_ret (st_ret (vs := [_]) [] Try.results55 ⟨rfl, trivial⟩ rfl ?_)))))
  refine ⟨_, rfl, ?_⟩
  exact ⟨rfl, rfl⟩
end Go.Proofs.Ytecmigildpkigaa
