/- Costs of parts of points, without a program. The best segmentations, without a program. Costs of parts, kept in two halves; the pure functions of the segmentations. slices.Values, AppendSeq, Collect and Sorted at []int, turned from the kit's worked proofs, and told by owned slices. Contracts of Go's functions on lists of numbers: Clone, Sort, Sorted, IndexFunc, ContainsFunc, Equal. Contracts on fractions and quantiles (layers 2 and 43). Contracts on quantiles (layer 43). Contracts of series: like, Coarsen, Moving, Quantile (layer 43). Contracts of the law's helper Series, of series.Rates, and the law SeriesRates (layer 43). Contracts: names, Check, Same, Equal, Shift, and the law's check, same, coarsen, total (layer 43). Contracts: the law's coarsen and total, and the law SeriesChanges (layer 43). Contracts: Slots, At, Window, copied, one and the law's at (layer 43). Contracts: both, Join (layer 43). The law SeriesWindows (layer 43). Contracts: Sum, and the law's join and sum (layer 43). The law SeriesJoins (layer 43). The law SeriesSums (layer 43). Stories (layer 13): their data, Short, kind, TraceId, Offset. Conditions: none. -/
import Derived.Test.YtecmigildpkigaaGreatSlZ
import Derived.WalkKit
import Derived.Test.YtecmigildpkigaaGreatProg
import Derived.Test.YtecmigildpkigaaGreatSl7
import Derived.Test.YtecmigildpkigaaGreatSlF
import Derived.RangeFuncBox
import Derived.RangeFuncLeaves
import Derived.Shelf.Abstract
import Derived.Shelf.AbstractIn
import Derived.OwnWalkIn
import Derived.TacticsInMore
import Derived.LoopNIn
import Derived.LoopIn
import Derived.Maps.AppendAt
import Derived.Test.YtecmigildpkigaaGreatShelf
import Derived.Test.YtecmigildpkigaaGreatSlC
import Derived.Test.YtecmigildpkigaaGreatSl3
import Derived.Test.YtecmigildpkigaaGreatSlH
import Derived.Test.YtecmigildpkigaaGreatSlI
import Derived.Test.YtecmigildpkigaaGreatSlG
import Derived.Test.YtecmigildpkigaaGreatSlD
import Derived.Test.YtecmigildpkigaaGreatSlJ
import Derived.Test.YtecmigildpkigaaGreatSlK
import Derived.Test.YtecmigildpkigaaGreatSlP
namespace Go.SegP
set_option linter.unusedVariables false
set_option linter.unusedSimpArgs false
def srt (l : List Int) : List Int := l.mergeSort fun x y => decide (x ≤ y)
theorem length_srt (l : List Int) : (srt l).length = l.length := List.length_mergeSort l
theorem srt_perm (l : List Int) : (srt l).Perm l := List.mergeSort_perm l _
theorem srt_le (l : List Int) : (srt l).Pairwise (· ≤ ·) := by
  have := List.pairwise_mergeSort (le := fun x y : Int => decide (x ≤ y)) (fun a b c h1 h2 => by simp at *; omega) (fun a b => by simp; omega) l
  exact this.imp fun h => by simpa using h
theorem sorted_unique : ∀ {a b : List Int}, a.Pairwise (· ≤ ·) → b.Pairwise (· ≤ ·) → a.Perm b → a = b
  | [], b, _, _, h => by simpa using h.symm.eq_nil
  | x :: a, [], _, _, h => by simpa using h.eq_nil
  | x :: a, y :: b, h1, h2, h => by
    obtain ⟨h3, h4⟩ := List.pairwise_cons.1 h1
    obtain ⟨h5, h6⟩ := List.pairwise_cons.1 h2
    have hxy : x = y := by
      have e1 : x ∈ y :: b := h.mem_iff.1 (by simp)
      have e2 : y ∈ x :: a := h.mem_iff.2 (by simp)
      rcases List.mem_cons.1 e1 with e1 | e1
      · exact e1
      · rcases List.mem_cons.1 e2 with e2 | e2
        · exact e2.symm
        · have := h3 y e2; have := h5 x e1; omega
    subst hxy
    rw [sorted_unique h4 h6 (List.Perm.cons_inv h)]
theorem srt_eq {l m : List Int} (h : m.Pairwise (· ≤ ·)) (hp : m.Perm l) : srt l = m := sorted_unique (srt_le l) h ((srt_perm l).trans hp.symm)
def medZ (l : List Int) : Int := (srt l).getD ((l.length - 1) / 2) 0
def devZ (l : List Int) (m : Int) : Int := (l.map fun x => max (x - m) (m - x)).sum
def costZ (l : List Int) : Int := devZ l (medZ l)
theorem sum_perm {a b : List Int} (h : a.Perm b) : a.sum = b.sum := by
  induction h with
  | nil => rfl
  | cons x _ ih => simp [ih]
  | swap x y l => simp; omega
  | trans _ _ h1 h2 => exact h1.trans h2
theorem dev_perm {a b : List Int} (h : a.Perm b) (m : Int) : devZ a m = devZ b m := sum_perm (h.map _)
theorem dev_app (a b : List Int) (m : Int) : devZ (a ++ b) m = devZ a m + devZ b m := by unfold devZ; simp
theorem dev_low : ∀ (l : List Int) (m : Int), m * l.length - l.sum ≤ devZ l m
  | [], m => by simp [devZ]
  | x :: l, m => by
    have ih := dev_low l m
    have e : devZ (x :: l) m = max (x - m) (m - x) + devZ l m := by simp [devZ]
    rw [e, List.length_cons, List.sum_cons]
    have : m * ((l.length + 1 : Nat) : Int) = m * l.length + m := by rw [Int.natCast_add, Int.mul_add]; simp
    omega
theorem dev_high : ∀ (l : List Int) (m : Int), l.sum - m * l.length ≤ devZ l m
  | [], m => by simp [devZ]
  | x :: l, m => by
    have ih := dev_high l m
    have e : devZ (x :: l) m = max (x - m) (m - x) + devZ l m := by simp [devZ]
    rw [e, List.length_cons, List.sum_cons]
    have : m * ((l.length + 1 : Nat) : Int) = m * l.length + m := by rw [Int.natCast_add, Int.mul_add]; simp
    omega
theorem dev_low_eq : ∀ (l : List Int) (m : Int), (∀ x ∈ l, x ≤ m) → devZ l m = m * l.length - l.sum
  | [], m, _ => by simp [devZ]
  | x :: l, m, h => by
    have ih := dev_low_eq l m (fun y hy => h y (by simp [hy]))
    have hx := h x (by simp)
    have e : devZ (x :: l) m = max (x - m) (m - x) + devZ l m := by simp [devZ]
    rw [e, List.length_cons, List.sum_cons]
    have : m * ((l.length + 1 : Nat) : Int) = m * l.length + m := by rw [Int.natCast_add, Int.mul_add]; simp
    omega
theorem dev_high_eq : ∀ (l : List Int) (m : Int), (∀ x ∈ l, m ≤ x) → devZ l m = l.sum - m * l.length
  | [], m, _ => by simp [devZ]
  | x :: l, m, h => by
    have ih := dev_high_eq l m (fun y hy => h y (by simp [hy]))
    have hx := h x (by simp)
    have e : devZ (x :: l) m = max (x - m) (m - x) + devZ l m := by simp [devZ]
    rw [e, List.length_cons, List.sum_cons]
    have : m * ((l.length + 1 : Nat) : Int) = m * l.length + m := by rw [Int.natCast_add, Int.mul_add]; simp
    omega
theorem dev_nn (l : List Int) (m : Int) : 0 ≤ devZ l m := by
  induction l with
  | nil => simp [devZ]
  | cons x l ih =>
    have e : devZ (x :: l) m = max (x - m) (m - x) + devZ l m := by simp [devZ]
    rw [e]; omega
theorem cost_nn (l : List Int) : 0 ≤ costZ l := dev_nn l _
structure Halves (l low high : List Int) : Prop where
  sorted : (low ++ high).Pairwise (· ≤ ·)
  perm : (low ++ high).Perm l
  l1 : high.length ≤ low.length
  l2 : low.length ≤ high.length + 1
theorem halves_med {l low high : List Int} {m : Int} (h : Halves l low high) (hm : low[low.length - 1]? = some m) : medZ l = m := by
  have h0 : low.length - 1 < low.length := (List.getElem?_eq_some_iff.1 hm).1
  have h1 := h.l1; have h2 := h.l2
  have hl : l.length = low.length + high.length := by rw [← h.perm.length_eq, List.length_append]
  unfold medZ
  rw [srt_eq h.sorted h.perm, show (l.length - 1) / 2 = low.length - 1 by omega, List.getD_eq_getElem?_getD, List.getElem?_append_left h0, hm]
  rfl
theorem halves_le {l low high : List Int} {m : Int} (h : Halves l low high) (hm : low[low.length - 1]? = some m) : (∀ x ∈ low, x ≤ m) ∧ (∀ x ∈ high, m ≤ x) := by
  obtain ⟨s1, s2, s3⟩ := List.pairwise_append.1 h.sorted
  refine ⟨fun x hx => ?_, fun x hx => s3 m (List.mem_of_getElem? hm) x hx⟩
  obtain ⟨i, hi⟩ := List.getElem?_of_mem hx
  obtain ⟨hil, hie⟩ := List.getElem?_eq_some_iff.1 hi
  obtain ⟨hml, hme⟩ := List.getElem?_eq_some_iff.1 hm
  by_cases e : i = low.length - 1
  · subst e; rw [hi] at hm; simp at hm; omega
  · have := List.pairwise_iff_getElem.1 s1 i (low.length - 1) hil hml (by omega)
    omega
theorem halves_cost {l low high : List Int} {m : Int} (h : Halves l low high) (hm : low[low.length - 1]? = some m) : costZ l = m * low.length - low.sum + high.sum - m * high.length := by
  obtain ⟨h1, h2⟩ := halves_le h hm
  unfold costZ
  rw [halves_med h hm, ← dev_perm h.perm, dev_app, dev_low_eq _ _ h1, dev_high_eq _ _ h2]
  omega
theorem halves_ex (l : List Int) : ∃ low high, Halves l low high := by
  refine ⟨(srt l).take ((l.length + 1) / 2), (srt l).drop ((l.length + 1) / 2), ⟨by rw [List.take_append_drop]; exact srt_le l, by rw [List.take_append_drop]; exact srt_perm l, ?_, ?_⟩⟩
  · rw [List.length_drop, List.length_take, length_srt]; omega
  · rw [List.length_drop, List.length_take, length_srt]; omega
theorem sum_dropLast {l : List Int} {m : Int} (hm : l[l.length - 1]? = some m) : l.dropLast.sum = l.sum - m ∧ l = l.dropLast ++ [m] := by
  have hne : l ≠ [] := fun e => by subst e; simp at hm
  have h1 : l.getLast hne = m := by
    rw [List.getLast_eq_getElem]; exact (List.getElem?_eq_some_iff.1 hm).2
  have h2 := List.dropLast_concat_getLast hne
  rw [h1] at h2
  refine ⟨?_, h2.symm⟩
  have h3 := congrArg List.sum h2
  simp at h3
  omega
theorem cost_le (l : List Int) (k : Int) : costZ l ≤ devZ l k := by
  obtain ⟨low, high, h⟩ := halves_ex l
  have hl1 := h.l1
  have hl2 := h.l2
  by_cases hn : low.length = 0
  · have e1 : low = [] := List.eq_nil_of_length_eq_zero hn
    have e2 : high = [] := List.eq_nil_of_length_eq_zero (by omega)
    subst e1; subst e2
    have e3 : l = [] := by simpa using h.perm.symm.eq_nil
    subst e3
    simp [costZ, devZ]
  · obtain ⟨m, hm⟩ : ∃ m, low[low.length - 1]? = some m := ⟨low[low.length - 1], List.getElem?_eq_getElem (by omega)⟩
    rw [halves_cost h hm, ← dev_perm h.perm, dev_app]
    have a1 := dev_low low k
    have a2 := dev_high high k
    obtain ⟨q, hq⟩ : ∃ q : Int, q = high.length := ⟨_, rfl⟩
    by_cases he : low.length = high.length
    · rw [he] at a1 ⊢
      omega
    · have he2 : (low.length : Int) = q + 1 := by omega
      rw [he2] at a1 ⊢
      rw [← hq] at a2 ⊢
      have e1 : k * (q + 1) = k * q + k := by rw [Int.mul_add]; simp
      have e2 : m * (q + 1) = m * q + m := by rw [Int.mul_add]; simp
      by_cases hk : m ≤ k
      · omega
      · obtain ⟨s1, s2⟩ := sum_dropLast hm
        have b1 := dev_low low.dropLast k
        have hdl : (low.dropLast.length : Int) = q := by rw [List.length_dropLast]; omega
        rw [hdl, s1] at b1
        have b2 : devZ low k = devZ low.dropLast k + devZ [m] k := by rw [← dev_app, ← s2]
        have b3 : devZ [m] k = max (m - k) (k - m) := by simp [devZ]
        omega
def segC (pts : List Int) (s t : Nat) : Int := costZ ((pts.take t).drop s)
theorem segC_nn (pts : List Int) (s t : Nat) : 0 ≤ segC pts s t := cost_nn _
theorem dev_bd {B : Int} : ∀ (l : List Int) (m : Int), (∀ x ∈ l, -B ≤ x ∧ x ≤ B) → -B ≤ m ∧ m ≤ B → devZ l m ≤ 2 * B * l.length
  | [], m, _, _ => by simp [devZ]
  | x :: l, m, h, hm => by
    have ih := dev_bd l m (fun y hy => h y (by simp [hy])) hm
    have hx := h x (by simp)
    have e : devZ (x :: l) m = max (x - m) (m - x) + devZ l m := by simp [devZ]
    rw [e, List.length_cons]
    have : 2 * B * ((l.length + 1 : Nat) : Int) = 2 * B * l.length + 2 * B := by rw [Int.natCast_add, Int.mul_add]; simp
    omega
theorem cost_bd {B : Int} (hB : 0 ≤ B) {l : List Int} (h : ∀ x ∈ l, -B ≤ x ∧ x ≤ B) : costZ l ≤ 2 * B * l.length := by
  have h1 := cost_le l 0
  have h2 := dev_bd l 0 h (by omega)
  omega
theorem segC_bd {B : Int} (hB : 0 ≤ B) {pts : List Int} (h : ∀ x ∈ pts, -B ≤ x ∧ x ≤ B) (s t : Nat) : segC pts s t ≤ 2 * B * pts.length := by
  have h1 := cost_bd hB (l := (pts.take t).drop s) (fun x hx => h x (List.mem_of_mem_take (List.mem_of_mem_drop hx)))
  have h2 : (((pts.take t).drop s).length : Int) ≤ pts.length := by rw [List.length_drop, List.length_take]; omega
  have h3 : 2 * B * (((pts.take t).drop s).length : Int) ≤ 2 * B * pts.length := Int.mul_le_mul_of_nonneg_left h2 (by omega)
  unfold segC; omega
end Go.SegP
namespace Go.SegP
set_option linter.unusedVariables false
set_option linter.unusedSimpArgs false
abbrev BV := Int × List Int
def cmpL : List Int → List Int → Int
  | [], [] => 0
  | [], _ :: _ => -1
  | _ :: _, [] => 1
  | x :: a, y :: b => if x < y then -1 else if x > y then 1 else cmpL a b
def btr (b o : BV) : Bool := if b.1 ≠ o.1 then decide (b.1 < o.1) else if b.2.length ≠ o.2.length then decide (b.2.length < o.2.length) else decide (cmpL b.2 o.2 < 0)
theorem cmp_self : ∀ a : List Int, cmpL a a = 0
  | [] => rfl
  | x :: a => by unfold cmpL; rw [if_neg (by omega), if_neg (by omega)]; exact cmp_self a
theorem cmp_trans : ∀ {a b c : List Int}, cmpL a b < 0 → cmpL b c < 0 → cmpL a c < 0
  | [], [], _, h, _ => absurd h (by unfold cmpL; decide)
  | x :: a, [], _, h, _ => absurd h (by unfold cmpL; decide)
  | _, y :: b, [], _, h => absurd h (by unfold cmpL; decide)
  | [], y :: b, z :: c, _, _ => by unfold cmpL; decide
  | x :: a, y :: b, z :: c, h1, h2 => by
    unfold cmpL at h1 h2 ⊢
    by_cases e1 : x < y
    · by_cases e2 : y < z
      · rw [if_pos (by omega)]; decide
      · by_cases e3 : y > z
        · rw [if_neg e2, if_pos e3] at h2; exact absurd h2 (by decide)
        · rw [if_pos (by omega)]; decide
    · by_cases e1' : x > y
      · rw [if_neg e1, if_pos e1'] at h1; exact absurd h1 (by decide)
      · rw [if_neg e1, if_neg e1'] at h1
        by_cases e2 : y < z
        · rw [if_pos (by omega)]; decide
        · by_cases e3 : y > z
          · rw [if_neg e2, if_pos e3] at h2; exact absurd h2 (by decide)
          · rw [if_neg e2, if_neg e3] at h2
            rw [if_neg (by omega), if_neg (by omega)]
            exact cmp_trans h1 h2
theorem btr_self (b : BV) : btr b b = false := by unfold btr; rw [if_neg (by simp), if_neg (by simp), cmp_self]; decide
theorem btr_lt {b o : BV} (h : b.1 < o.1) : btr b o = true := by unfold btr; rw [if_pos (by omega)]; exact decide_eq_true h
theorem btr_gt {b o : BV} (h : o.1 < b.1) : btr b o = false := by unfold btr; rw [if_pos (by omega)]; exact decide_eq_false (by omega)
theorem btr_le {b o : BV} (h : btr b o = true) : b.1 ≤ o.1 := by
  by_cases e : o.1 < b.1
  · rw [btr_gt e] at h; exact absurd h (by decide)
  · omega
theorem btr_nle {b o : BV} (h : btr b o = false) : o.1 ≤ b.1 := by
  by_cases e : b.1 < o.1
  · rw [btr_lt e] at h; exact absurd h (by decide)
  · omega
theorem btr_trans {a b c : BV} (h1 : btr a b = true) (h2 : btr b c = true) : btr a c = true := by
  have e1 := btr_le h1
  have e2 := btr_le h2
  by_cases e : a.1 < c.1
  · exact btr_lt e
  · unfold btr at h1 h2 ⊢
    rw [if_neg (by omega)] at h1 h2 ⊢
    by_cases l1 : a.2.length = b.2.length
    · rw [if_neg (by omega)] at h1
      by_cases l2 : b.2.length = c.2.length
      · rw [if_neg (by omega)] at h2 ⊢
        exact decide_eq_true (cmp_trans (of_decide_eq_true h1) (of_decide_eq_true h2))
      · rw [if_pos (by omega)] at h2 ⊢
        have := of_decide_eq_true h2
        exact decide_eq_true (by omega)
    · rw [if_pos (by omega)] at h1
      have := of_decide_eq_true h1
      by_cases l2 : b.2.length = c.2.length
      · rw [if_pos (by omega)]; exact decide_eq_true (by omega)
      · rw [if_pos (by omega)] at h2
        have := of_decide_eq_true h2
        rw [if_pos (by omega)]; exact decide_eq_true (by omega)
def aftB (b : BV) (s : Nat) (c : Int) : BV := (b.1 + c, if s > 0 then b.2 ++ [(s : Int)] else b.2)
def stpB (all : List BV) (pen : Int) (c : Nat → Int) (f : Option BV) (s : Nat) : Option BV := match f with
  | none => some (aftB (all.getD s (0, [])) s (pen + c s))
  | some f => if (all.getD s (0, [])).1 + pen + c s > f.1 then some f else if btr (aftB (all.getD s (0, [])) s (pen + c s)) f = true then some (aftB (all.getD s (0, [])) s (pen + c s)) else some f
def pikB (all : List BV) (pen : Int) (c : Nat → Int) (cand : List Nat) : Option BV := cand.foldl (stpB all pen c) none
def cnd (all : List BV) (pen : Int) (c : Nat → Int) (s : Nat) : BV := aftB (all.getD s (0, [])) s (pen + c s)
theorem cnd_tot {all : List BV} {pen : Int} {c : Nat → Int} {s : Nat} : (cnd all pen c s).1 = (all.getD s (0, [])).1 + (pen + c s) := rfl
theorem pik_snoc (all : List BV) (pen : Int) (c : Nat → Int) (cand : List Nat) (s : Nat) : pikB all pen c (cand ++ [s]) = stpB all pen c (pikB all pen c cand) s := by unfold pikB; rw [List.foldl_append]; rfl
theorem stp_some {all : List BV} {pen : Int} {c : Nat → Int} {f : BV} {s : Nat} : stpB all pen c (some f) s = some (if btr (cnd all pen c s) f = true then cnd all pen c s else f) := by
  unfold stpB
  dsimp only
  by_cases h : (all.getD s (0, [])).1 + pen + c s > f.1
  · have : btr (cnd all pen c s) f = false := btr_gt (by rw [cnd_tot]; omega)
    rw [if_pos h, if_neg (by rw [this]; decide)]
  · rw [if_neg h]
    by_cases h2 : btr (cnd all pen c s) f = true
    · rw [if_pos h2]; exact if_pos h2
    · rw [if_neg h2]; exact if_neg h2
def IsLeast (all : List BV) (pen : Int) (c : Nat → Int) (cand : List Nat) (f : BV) : Prop := (∃ s ∈ cand, f = cnd all pen c s) ∧ ∀ s ∈ cand, btr (cnd all pen c s) f = false
theorem pik_least (all : List BV) (pen : Int) (c : Nat → Int) : ∀ (l : List Nat) (cand : List Nat) (f : BV), IsLeast all pen c cand f → ∃ g, l.foldl (stpB all pen c) (some f) = some g ∧ IsLeast all pen c (cand ++ l) g
  | [], cand, f, h => ⟨f, rfl, by simpa using h⟩
  | s :: l, cand, f, h => by
    obtain ⟨⟨s0, h0, h1⟩, h2⟩ := h
    rw [List.foldl_cons, stp_some]
    have hn : IsLeast all pen c (cand ++ [s]) (if btr (cnd all pen c s) f = true then cnd all pen c s else f) := by
      by_cases hb : btr (cnd all pen c s) f = true
      · rw [if_pos hb]
        refine ⟨⟨s, by simp, rfl⟩, fun q hq => ?_⟩
        rcases List.mem_append.1 hq with hq | hq
        · cases hx : btr (cnd all pen c q) (cnd all pen c s) with
          | false => rfl
          | true => have := btr_trans hx hb; rw [h2 q hq] at this; exact absurd this (by decide)
        · rw [List.mem_singleton] at hq; subst hq; exact btr_self _
      · rw [if_neg hb]
        refine ⟨⟨s0, by simp [h0], h1⟩, fun q hq => ?_⟩
        rcases List.mem_append.1 hq with hq | hq
        · exact h2 q hq
        · rw [List.mem_singleton] at hq; subst hq; simpa using hb
    obtain ⟨g, e1, e2⟩ := pik_least all pen c l (cand ++ [s]) _ hn
    exact ⟨g, e1, by simpa using e2⟩
theorem pik_ex (all : List BV) (pen : Int) (c : Nat → Int) {cand : List Nat} (h : cand ≠ []) : ∃ g, pikB all pen c cand = some g ∧ IsLeast all pen c cand g := by
  cases cand with
  | nil => exact absurd rfl h
  | cons s l =>
    have h0 : IsLeast all pen c [s] (cnd all pen c s) := ⟨⟨s, by simp, rfl⟩, fun q hq => by rw [List.mem_singleton] at hq; subst hq; exact btr_self _⟩
    exact pik_least all pen c l [s] _ h0
def allN (C : Nat → Nat → Int) (pen : Int) (prune : Bool) : Nat → List BV × List Nat
  | 0 => ([(-pen, [])], [0])
  | t + 1 =>
    let p := allN C pen prune t
    let f := (pikB p.1 pen (fun s => C s (t + 1)) p.2).getD (0, [])
    (p.1 ++ [f], (if prune = true then p.2.filter (fun s => !decide ((p.1.getD s (0, [])).1 + C s (t + 1) > f.1)) else p.2) ++ [t + 1])
def fndN (C : Nat → Nat → Int) (pen : Int) (prune : Bool) (t : Nat) : BV := (pikB (allN C pen prune t).1 pen (fun s => C s (t + 1)) (allN C pen prune t).2).getD (0, [])
theorem all_succ (C : Nat → Nat → Int) (pen : Int) (prune : Bool) (t : Nat) : (allN C pen prune (t + 1)).1 = (allN C pen prune t).1 ++ [fndN C pen prune t] := rfl
theorem cand_succ (C : Nat → Nat → Int) (pen : Int) (prune : Bool) (t : Nat) : (allN C pen prune (t + 1)).2 = (if prune = true then (allN C pen prune t).2.filter (fun s => !decide (((allN C pen prune t).1.getD s (0, [])).1 + C s (t + 1) > (fndN C pen prune t).1)) else (allN C pen prune t).2) ++ [t + 1] := rfl
theorem all_len (C : Nat → Nat → Int) (pen : Int) (prune : Bool) : ∀ t, (allN C pen prune t).1.length = t + 1
  | 0 => rfl
  | t + 1 => by rw [all_succ, List.length_append, all_len C pen prune t]; rfl
theorem cand_sub (C : Nat → Nat → Int) (pen : Int) (prune : Bool) : ∀ t, ∀ s ∈ (allN C pen prune t).2, s ≤ t
  | 0, s, h => by simp [allN] at h; omega
  | t + 1, s, h => by
    rw [cand_succ] at h
    rcases List.mem_append.1 h with h | h
    · have : s ∈ (allN C pen prune t).2 := by
        split at h
        · exact (List.mem_filter.1 h).1
        · exact h
      have := cand_sub C pen prune t s this; omega
    · simp at h; omega
theorem cand_last (C : Nat → Nat → Int) (pen : Int) (prune : Bool) (t : Nat) : t ∈ (allN C pen prune t).2 := by
  cases t with
  | zero => simp [allN]
  | succ t => rw [cand_succ]; simp
theorem cand_len (C : Nat → Nat → Int) (pen : Int) (prune : Bool) : ∀ t, (allN C pen prune t).2.length ≤ t + 1
  | 0 => by simp [allN]
  | t + 1 => by
    have ih := cand_len C pen prune t
    rw [cand_succ, List.length_append]
    have : (if prune = true then (allN C pen prune t).2.filter (fun s => !decide (((allN C pen prune t).1.getD s (0, [])).1 + C s (t + 1) > (fndN C pen prune t).1)) else (allN C pen prune t).2).length ≤ (allN C pen prune t).2.length := by
      split
      · exact List.length_filter_le ..
      · omega
    rw [List.length_singleton]; omega
theorem fnd_least (C : Nat → Nat → Int) (pen : Int) (prune : Bool) (t : Nat) : IsLeast (allN C pen prune t).1 pen (fun s => C s (t + 1)) (allN C pen prune t).2 (fndN C pen prune t) := by
  obtain ⟨g, h1, h2⟩ := pik_ex (allN C pen prune t).1 pen (fun s => C s (t + 1)) (cand := (allN C pen prune t).2) (List.ne_nil_of_mem (cand_last C pen prune t))
  unfold fndN
  rw [h1]; exact h2
theorem all_get (C : Nat → Nat → Int) (pen : Int) (prune : Bool) {s t : Nat} (h : s ≤ t) : (allN C pen prune t).1.getD s (0, []) = (allN C pen prune s).1.getD s (0, []) := by
  induction t with
  | zero => rw [show s = 0 by omega]
  | succ t ih =>
    by_cases e : s = t + 1
    · rw [e]
    · have hl := all_len C pen prune t
      rw [← ih (by omega), all_succ, List.getD_eq_getElem?_getD, List.getElem?_append_left (by omega), ← List.getD_eq_getElem?_getD]
def bstN (C : Nat → Nat → Int) (pen : Int) (prune : Bool) (t : Nat) : BV := (allN C pen prune t).1.getD t (0, [])
theorem bst_succ (C : Nat → Nat → Int) (pen : Int) (prune : Bool) (t : Nat) : bstN C pen prune (t + 1) = fndN C pen prune t := by
  unfold bstN
  rw [all_succ, List.getD_eq_getElem?_getD, List.getElem?_append_right (by rw [all_len]; omega), all_len]; simp
theorem bst_zero (C : Nat → Nat → Int) (pen : Int) (prune : Bool) : bstN C pen prune 0 = (-pen, []) := rfl
theorem all_bst (C : Nat → Nat → Int) (pen : Int) (prune : Bool) {s t : Nat} (h : s ≤ t) : (allN C pen prune t).1.getD s (0, []) = bstN C pen prune s := all_get C pen prune h
theorem all_getS (C : Nat → Nat → Int) (pen : Int) (prune : Bool) {s t : Nat} (h : s ≤ t) : (allN C pen prune t).1[s]? = some (bstN C pen prune s) := by
  have h1 := all_bst C pen prune h
  have h2 := all_len C pen prune t
  rw [List.getD_eq_getElem?_getD, List.getElem?_eq_getElem (by omega)] at h1
  rw [List.getElem?_eq_getElem (by omega), ← h1]; rfl
theorem bst_ex (C : Nat → Nat → Int) (pen : Int) (prune : Bool) (t : Nat) : ∃ s, s ≤ t ∧ bstN C pen prune (t + 1) = aftB (bstN C pen prune s) s (pen + C s (t + 1)) := by
  obtain ⟨s, h1, h2⟩ := (fnd_least C pen prune t).1
  have h3 := cand_sub C pen prune t s h1
  refine ⟨s, h3, ?_⟩
  rw [bst_succ, h2]; unfold cnd; rw [all_bst C pen prune h3]
def sgs (C : Nat → Nat → Int) (n : Nat) : Nat → List Int → Int
  | s, [] => C s n
  | s, c :: cs => C s c.toNat + sgs C n c.toNat cs
def Cuts (n : Nat) : Nat → List Int → Prop
  | s, [] => s < n
  | s, c :: cs => (s : Int) < c ∧ Cuts n c.toNat cs
instance (n : Nat) : ∀ (s : Nat) (l : List Int), Decidable (Cuts n s l)
  | s, [] => by unfold Cuts; infer_instance
  | s, c :: cs => by unfold Cuts; have := instDecidableCuts n c.toNat cs; infer_instance
theorem cuts_lt {n : Nat} : ∀ {s : Nat} {l : List Int}, Cuts n s l → s < n
  | s, [], h => h
  | s, c :: cs, h => by have := cuts_lt h.2; have := h.1; omega
theorem cuts_le {n : Nat} : ∀ {s : Nat} {l : List Int}, Cuts n s l → ∀ c ∈ l, (s : Int) < c ∧ c < n
  | s, [], h, c, hc => by simp at hc
  | s, d :: cs, h, c, hc => by
    have h1 := cuts_lt h.2
    have h2 := h.1
    rcases List.mem_cons.1 hc with e | e
    · subst e; omega
    · have := cuts_le h.2 c e; omega
theorem cuts_snoc {n : Nat} : ∀ {s t : Nat} {l : List Int}, Cuts t s l → t < n → Cuts n s (l ++ [(t : Int)])
  | s, t, [], h, hn => ⟨by have : s < t := h; omega, by show t < n; exact hn⟩
  | s, t, c :: cs, h, hn => ⟨h.1, cuts_snoc h.2 hn⟩
theorem sgs_snoc (C : Nat → Nat → Int) (n : Nat) : ∀ (s t : Nat) (l : List Int), sgs C n s (l ++ [(t : Int)]) = sgs C t s l + C t n
  | s, t, [] => by show C s t + C t n = C s t + C t n; rfl
  | s, t, c :: cs => by
    show C s c.toNat + sgs C n c.toNat (cs ++ [(t : Int)]) = C s c.toNat + sgs C t c.toNat cs + C t n
    rw [sgs_snoc C n c.toNat t cs]; omega
theorem bst_cuts (C : Nat → Nat → Int) (pen : Int) (prune : Bool) : ∀ t : Nat, 0 < t → Cuts t 0 (bstN C pen prune t).2 ∧ (bstN C pen prune t).1 = pen * (bstN C pen prune t).2.length + sgs C t 0 (bstN C pen prune t).2 := by
  intro t
  induction t using Nat.strongRecOn with
  | ind t ih =>
    intro h0
    obtain ⟨m, rfl⟩ : ∃ m, t = m + 1 := ⟨t - 1, by omega⟩
    obtain ⟨s, h1, h2⟩ := bst_ex C pen prune m
    rw [h2]
    by_cases hs : s = 0
    · subst hs
      rw [bst_zero]
      unfold aftB
      refine ⟨Nat.succ_pos m, ?_⟩
      show -pen + (pen + C 0 (m + 1)) = pen * ((0 : Nat) : Int) + C 0 (m + 1)
      simp; omega
    · obtain ⟨a1, a2⟩ := ih s (by omega) (by omega)
      unfold aftB
      rw [if_pos (by omega)]
      refine ⟨cuts_snoc a1 (by omega), ?_⟩
      show (bstN C pen prune s).1 + (pen + C s (m + 1)) = pen * (((bstN C pen prune s).2 ++ [(s : Int)]).length : Int) + sgs C (m + 1) 0 ((bstN C pen prune s).2 ++ [(s : Int)])
      rw [sgs_snoc, List.length_append, List.length_singleton, a2]
      have e : pen * (((bstN C pen prune s).2.length + 1 : Nat) : Int) = pen * ((bstN C pen prune s).2.length : Int) + pen := by rw [Int.natCast_add, Int.mul_add]; simp
      omega
theorem cuts_len {n : Nat} : ∀ {s : Nat} {l : List Int}, Cuts n s l → s + l.length < n
  | s, [], h => h
  | s, c :: cs, h => by have := cuts_len h.2; have := h.1; rw [List.length_cons]; omega
end Go.SegP
namespace Go.SegP
set_option linter.unusedVariables false
set_option linter.unusedSimpArgs false
structure IsPos (l : List Int) (x : Int) (k : Nat) : Prop where
  le : k ≤ l.length
  lo : ∀ y ∈ l.take k, y < x
  hi : ∀ y ∈ l.drop k, x ≤ y
def insA (l : List Int) (k : Nat) (x : Int) : List Int := l.take k ++ [x] ++ l.drop k
theorem ins_len {l : List Int} {k : Nat} {x : Int} (h : k ≤ l.length) : (insA l k x).length = l.length + 1 := by unfold insA; simp only [List.length_append, List.length_take, List.length_drop, List.length_singleton]; omega
theorem ins_perm (l : List Int) (k : Nat) (x : Int) : (insA l k x).Perm (x :: l) := by
  unfold insA
  have h : (l.take k ++ [x] ++ l.drop k).Perm ([x] ++ l.take k ++ l.drop k) := List.perm_append_comm.append_right _
  refine h.trans ?_
  rw [List.append_assoc, List.take_append_drop]; exact List.Perm.refl _
theorem ins_sum (l : List Int) (k : Nat) (x : Int) : (insA l k x).sum = l.sum + x := by rw [sum_perm (ins_perm l k x), List.sum_cons]; omega
theorem ins_sorted {l : List Int} {k : Nat} {x : Int} (hs : l.Pairwise (· ≤ ·)) (h : IsPos l x k) : (insA l k x).Pairwise (· ≤ ·) := by
  unfold insA
  have e := hs
  rw [← List.take_append_drop k l] at e
  obtain ⟨h1, h2, h3⟩ := List.pairwise_append.1 e
  refine List.pairwise_append.2 ⟨List.pairwise_append.2 ⟨h1, by simp, fun a ha b hb => ?_⟩, h2, fun a ha b hb => ?_⟩
  · rw [List.mem_singleton] at hb; subst hb; have := h.lo a ha; omega
  · rcases List.mem_append.1 ha with ha | ha
    · exact h3 a ha b hb
    · rw [List.mem_singleton] at ha; subst ha; exact h.hi b hb
theorem ins_mem {l : List Int} {k : Nat} {x y : Int} : y ∈ insA l k x ↔ y = x ∨ y ∈ l := by rw [(ins_perm l k x).mem_iff, List.mem_cons]
structure Cat (l low high : List Int) : Prop where
  sorted : (low ++ high).Pairwise (· ≤ ·)
  perm : (low ++ high).Perm l
theorem Cat.len {l low high : List Int} (h : Cat l low high) : low.length + high.length = l.length := by rw [← h.perm.length_eq, List.length_append]
theorem cat_high {l low high : List Int} {x m : Int} {k : Nat} (h : Halves l low high) (hm : low[low.length - 1]? = some m) (hx : m < x) (hp : IsPos high x k) : Cat (x :: l) low (insA high k x) := by
  obtain ⟨s1, s2, s3⟩ := List.pairwise_append.1 h.sorted
  obtain ⟨q1, q2⟩ := halves_le h hm
  refine ⟨List.pairwise_append.2 ⟨s1, ins_sorted s2 hp, fun a ha b hb => ?_⟩, ?_⟩
  · rcases ins_mem.1 hb with rfl | hb
    · have := q1 a ha; omega
    · exact s3 a ha b hb
  · refine ((ins_perm high k x).append_left low).trans ?_
    refine (List.perm_middle).trans ?_
    exact h.perm.cons x
theorem cat_low {l low high : List Int} {x : Int} {k : Nat} (h : Halves l low high) (hx : ∀ m, low[low.length - 1]? = some m → x ≤ m) (hp : IsPos low x k) : Cat (x :: l) (insA low k x) high := by
  obtain ⟨s1, s2, s3⟩ := List.pairwise_append.1 h.sorted
  refine ⟨List.pairwise_append.2 ⟨ins_sorted s1 hp, s2, fun a ha b hb => ?_⟩, ?_⟩
  · rcases ins_mem.1 ha with rfl | ha
    · by_cases hn : low.length = 0
      · have := h.l1
        have : high = [] := List.eq_nil_of_length_eq_zero (by omega)
        rw [this] at hb; simp at hb
      · have hm : low[low.length - 1]? = some low[low.length - 1] := List.getElem?_eq_getElem (by omega)
        have := hx _ hm
        have := (halves_le h hm).2 b hb
        omega
    · exact s3 a ha b hb
  · exact ((ins_perm low k x).append_right high).trans (by rw [List.cons_append]; exact h.perm.cons x)
theorem cat_same {l low high : List Int} (h : Cat l low high) (h1 : high.length ≤ low.length) (h2 : low.length ≤ high.length + 1) : Halves l low high := ⟨h.sorted, h.perm, h1, h2⟩
theorem cat_up {l low high : List Int} {m : Int} (h : Cat l low high) (hm : low[low.length - 1]? = some m) (h1 : low.length = high.length + 2) : Halves l (low.take (low.length - 1)) (insA high 0 m) := by
  have e : low.take (low.length - 1) ++ insA high 0 m = low ++ high := by
    have h2 := (sum_dropLast hm).2
    rw [List.dropLast_eq_take] at h2
    conv => rhs; rw [h2]
    simp [insA]
  refine ⟨by rw [e]; exact h.sorted, by rw [e]; exact h.perm, ?_, ?_⟩
  · rw [ins_len (by omega), List.length_take]; omega
  · rw [ins_len (by omega), List.length_take]; omega
theorem cat_down {l low high : List Int} {m : Int} (h : Cat l low high) (hm : high[0]? = some m) (h1 : high.length = low.length + 1) : Halves l (low ++ [m]) (high.drop 1) := by
  have e : (low ++ [m]) ++ high.drop 1 = low ++ high := by
    cases high with
    | nil => simp at hm
    | cons y high => simp at hm; subst hm; simp
  refine ⟨by rw [e]; exact h.sorted, by rw [e]; exact h.perm, ?_, ?_⟩
  · rw [List.length_append, List.length_drop, List.length_singleton]; omega
  · rw [List.length_append, List.length_drop, List.length_singleton]; omega
theorem sum_cut {low : List Int} {m : Int} (hm : low[low.length - 1]? = some m) : (low.take (low.length - 1)).sum = low.sum - m := by
  have := (sum_dropLast hm).1
  rwa [List.dropLast_eq_take] at this
theorem sum_tail {high : List Int} {m : Int} (hm : high[0]? = some m) : (high.drop 1).sum = high.sum - m := by
  cases high with
  | nil => simp at hm
  | cons y high => simp at hm; subst hm; simp; omega
structure PtsB (l : List Int) : Prop where
  len : l.length ≤ 100
  val : ∀ x ∈ l, -1000 ≤ x ∧ x ≤ 1000
theorem sum_bd : ∀ {l : List Int}, (∀ x ∈ l, -1000 ≤ x ∧ x ≤ 1000) → -1000 * (l.length : Int) ≤ l.sum ∧ l.sum ≤ 1000 * (l.length : Int)
  | [], _ => by simp
  | x :: l, h => by
    have ih := sum_bd (l := l) (fun y hy => h y (by simp [hy]))
    have := h x (by simp)
    rw [List.sum_cons, List.length_cons]
    omega
theorem mul_bd {m : Int} {k : Nat} (hm : -1000 ≤ m ∧ m ≤ 1000) (hk : k ≤ 200) : -200000 ≤ m * (k : Int) ∧ m * (k : Int) ≤ 200000 := by
  have h1 : m * (k : Int) ≤ 1000 * k := Int.mul_le_mul_of_nonneg_right hm.2 (by omega)
  have h2 : -1000 * (k : Int) ≤ m * k := Int.mul_le_mul_of_nonneg_right hm.1 (by omega)
  omega
def costsL (pts : List Int) (t : Nat) : List Int := (List.range t).map fun s => segC pts s t
theorem costs_len (pts : List Int) (t : Nat) : (costsL pts t).length = t := by unfold costsL; simp
theorem costs_get (pts : List Int) {s t : Nat} (h : s < t) : (costsL pts t)[s]? = some (segC pts s t) := by unfold costsL; rw [List.getElem?_map, List.getElem?_range h]; rfl
theorem costs_step (pts : List Int) {i t : Nat} (h : i < t) : (List.replicate (i + 1) 0 ++ (costsL pts t).drop (i + 1)).set i (segC pts i t) = List.replicate i 0 ++ (costsL pts t).drop i := by
  have h1 : (costsL pts t).drop i = segC pts i t :: (costsL pts t).drop (i + 1) := by
    have hl := costs_len pts t
    rw [List.drop_eq_getElem_cons (by omega)]
    congr 1
    have := costs_get pts h
    exact (List.getElem?_eq_some_iff.1 this).2
  rw [h1, List.replicate_succ', List.append_assoc, List.set_append, if_neg (by simp), List.length_replicate, Nat.sub_self]
  simp
theorem seg_cons (pts : List Int) {i t : Nat} {x : Int} (hx : pts[i]? = some x) (ht : i < t) : (pts.take t).drop i = x :: (pts.take t).drop (i + 1) := by
  have hl : i < (pts.take t).length := by rw [List.length_take]; have := (List.getElem?_eq_some_iff.1 hx).1; omega
  rw [List.drop_eq_getElem_cons hl]
  congr 1
  rw [List.getElem_take]
  exact (List.getElem?_eq_some_iff.1 hx).2
theorem segC_pos (pts : List Int) (h : PtsB pts) (s t : Nat) : 0 ≤ segC pts s t ∧ segC pts s t ≤ 200000 := by
  refine ⟨segC_nn pts s t, ?_⟩
  have h1 := segC_bd (B := 1000) (by decide) h.val s t
  have := h.len
  omega
theorem bst_bd {C : Nat → Nat → Int} {pen : Int} (hp : 0 ≤ pen ∧ pen ≤ 1000) (hC : ∀ s t, 0 ≤ C s t ∧ C s t ≤ 200000) (prune : Bool) : ∀ t : Nat, -1000 ≤ (bstN C pen prune t).1 ∧ (bstN C pen prune t).1 ≤ 201000 * t := by
  intro t
  induction t using Nat.strongRecOn with
  | ind t ih =>
    cases t with
    | zero => rw [bst_zero]; dsimp only; omega
    | succ m =>
      obtain ⟨s, h1, h2⟩ := bst_ex C pen prune m
      have h3 := ih s (by omega)
      have h4 := hC s (m + 1)
      have h5 := btr_nle ((fnd_least C pen prune m).2 m (cand_last C pen prune m))
      rw [← bst_succ, cnd_tot, all_bst C pen prune (Nat.le_refl m)] at h5
      have h6 := ih m (by omega)
      have h7 := hC m (m + 1)
      refine ⟨?_, by omega⟩
      rw [h2]; unfold aftB; dsimp only; omega
end Go.SegP
namespace Go.Proofs.YtecmigildpkigaaGreat.Ser
open Go Go.RowKit Go.Shelf
set_option linter.unusedVariables false
set_option linter.unusedSimpArgs false
attribute [local go_sem] Oper.semAt_some
def vupto (f : Nat → Int) (k : Nat) : List Int := (List.range k).map f
theorem vupto_succ (f : Nat → Int) (k : Nat) : vupto f (k + 1) = vupto f k ++ [f k] := by simp [vupto, List.range_succ]
theorem vupto_length (f : Nat → Int) (k : Nat) : (vupto f k).length = k := by simp [vupto]
theorem vupto_all (zs : List Int) : vupto (fun j => zs[j]?.getD 0) zs.length = zs := by
  apply List.ext_getElem
  · simp [vupto]
  · intro i h1 h2
    simp [vupto, h2]
set_option maxRecDepth 100000 in
set_option maxHeartbeats 2000000 in
theorem values1_in (F : Fence) (n : Nat) (h7 : F.fn 68) (hro : F.round = none) (hn : 1 ≤ n) (l Bs n₀ b off len cap : Nat) (zs : List Int) (hb : b < n₀) (hlen : len ≤ 9223372036854775807) (J Jx : List Int → World → Prop)
    (hY : ∀ pre x W, J pre W → pre.length < len → YieldAt F (n - 1) Tryz.prog l #[.int .i64 x] W fun e W' =>
      (e = .returned (.bool true) ∧ J (pre ++ [x]) W' ∧ Below n₀ W W') ∨ (e = .returned (.bool false) ∧ Jx (pre ++ [x]) W'))
    (W : World) (hBs : W.cell? ⟨Bs, 0, none⟩ = some (.slice (some ⟨b, off, none⟩) len cap)) (hc : ∀ j, j < len → W.cell? ⟨b, off + j, none⟩ = some (.int .i64 (zs[j]?.getD 0))) (h0 : J [] W) :
    CallsIn F n Tryz.prog 68 #[.func (.yield l) #[] #[], .pointer (some ⟨Bs, 0, none⟩)] W fun e W' => (∃ v, e = .returned v) ∧
      ((∃ ys, ys = vupto (fun j => zs[j]?.getD 0) len ∧ J ys W') ∨ (∃ pre, (∃ k, k ≤ len ∧ pre = vupto (fun j => zs[j]?.getD 0) k) ∧ Jx pre W')) := by
  refine callsIn_of_wp Tryz.func68 rfl h7 ?_ hro
  simp only [Tryz.ntmps68, List.size_toArray, List.length_cons, List.length_nil, Nat.reduceAdd, Nat.reduceSub, Array.replicate_succ, Array.replicate_zero, List.push_toArray, List.append_toArray, List.nil_append, List.cons_append]
  gi_wp2
  gi_loopw [7] (fun i wr => ∃ k : Nat, k ≤ len ∧ i = .int .i64 k ∧ J (vupto (fun j => zs[j]?.getD 0) k) wr ∧ Below n₀ W wr)
    (fun i _ => len - (intOf i).toNat)
  case atStart => exact ⟨0, Nat.zero_le _, rfl, h0, Below.refl _ _⟩
  case round =>
    obtain ⟨k, hk, rfl, hJs, hnx⟩ := hrel
    have hcx : k < len → wr.cell? ⟨b, off + k, none⟩ = some (.int .i64 (zs[k]?.getD 0)) := fun h => (hnx.cell (p := ⟨b, off + k, none⟩) hb).trans (hc k h)
    by_cases hlt : k < len
    · obtain ⟨fn, tmps, assign, body, hy, hR⟩ := hY _ (zs[k]?.getD 0) wr hJs (by rw [vupto_length]; exact hlt)
      have hcx' := hcx hlt
      gi_wp2
      refine hR.mono ?_
      rintro e W3 (⟨rfl, hJ3, hk3⟩ | ⟨rfl, hJx3⟩)
      · gi_wp2
        go_roundw
        case rel => exact ⟨k + 1, by omega, by simp, by rw [vupto_succ]; exact hJ3, hnx.trans hk3⟩
        case measure => simp [intOf]; omega
      · gi_wp2
        refine bodyPost_ret (results_none rfl _ _ _) rfl ?_
        exact ⟨⟨_, rfl⟩, .inr ⟨_, ⟨k + 1, by omega, (vupto_succ _ _).symm⟩, hJx3⟩⟩
    · obtain rfl : k = len := by omega
      gi_wp2
      go_end0
      exact ⟨⟨_, rfl⟩, .inl ⟨_, rfl, hJs⟩⟩
set_option maxRecDepth 100000 in
set_option maxHeartbeats 1000000 in
theorem values1_nil_in (F : Fence) (n : Nat) (h7 : F.fn 68) (hro : F.round = none) (l Bs cap : Nat) (a : Option Addr) (J : List Int → World → Prop) (W : World) (hBs : W.cell? ⟨Bs, 0, none⟩ = some (.slice a 0 cap)) (h0 : J [] W) :
    CallsIn F n Tryz.prog 68 #[.func (.yield l) #[] #[], .pointer (some ⟨Bs, 0, none⟩)] W fun e W' => (∃ v, e = .returned v) ∧ J [] W' := by
  refine callsIn_of_wp Tryz.func68 rfl h7 ?_ hro
  simp only [Tryz.ntmps68, List.size_toArray, List.length_cons, List.length_nil, Nat.reduceAdd, Nat.reduceSub, Array.replicate_succ, Array.replicate_zero, List.push_toArray, List.append_toArray, List.nil_append, List.cons_append]
  gi_wp2
  gi_loopw [7] (fun i wr => i = .int .i64 0 ∧ J [] wr) (fun _ _ => 0)
  case atStart => exact ⟨rfl, h0⟩
  case round =>
    obtain ⟨rfl, hJs⟩ := hrel
    gi_wp2
    go_end0
    exact ⟨⟨_, rfl⟩, hJs⟩
def IntsB (n₀ : Nat) (W : World) (sv : Value) (zs : List Int) : Prop :=
  (∃ a c, sv = .slice a 0 c ∧ zs = []) ∨ ∃ b off cap, sv = .slice (some ⟨b, off, none⟩) zs.length cap ∧ b < n₀ ∧ ∀ j, j < zs.length → W.cell? ⟨b, off + j, none⟩ = some (.int .i64 (zs[j]?.getD 0))
theorem IntsB.below {n₀ : Nat} {A B : World} (h : Below n₀ A B) {sv : Value} {zs : List Int} : IntsB n₀ A sv zs → IntsB n₀ B sv zs
  | .inl e => .inl e
  | .inr ⟨b, off, cap, e, hb, hc⟩ => .inr ⟨b, off, cap, e, hb, fun j hj => (h.cell (p := ⟨b, off + j, none⟩) hb).trans (hc j hj)⟩
theorem vupto_take (zs : List Int) {k : Nat} (hk : k ≤ zs.length) : vupto (fun j => zs[j]?.getD 0) k = zs.take k := by
  apply List.ext_getElem
  · simp [vupto, hk]
  · intro i h1 h2
    have : i < zs.length := by simp [vupto] at h1; omega
    simp [vupto, this]
theorem values_stops (F : Fence) (n : Nat) (h7 : F.fn 68) (hro : F.round = none) (hn : 1 ≤ n) (Bs n₀ : Nat) (sv : Value) (zs : List Int) (hlen : zs.length ≤ 9223372036854775807) (w : World) (hBs : Bs < w.heap.size) (hn₀ : n₀ ≤ w.heap.size)
    (hc : w.cell? ⟨Bs, 0, none⟩ = some sv) (hI : IntsB n₀ w sv zs) :
    SeqStopsK F n Tryz.prog 68 #[.pointer (some ⟨Bs, 0, none⟩)] (fun x : Int => #[Value.int .i64 x]) (Below n₀) (fun ys => ys = zs) (fun pre => pre <+: zs) zs.length w := fun l J Jx W hW _ _ hY h0 => by
  have hc' := (hW.cell (p := ⟨Bs, 0, none⟩) hBs).trans hc
  rcases hI.below (hW.mono hn₀) with ⟨a, c, rfl, rfl⟩ | ⟨b, off, cap, rfl, hb, hcs⟩
  · exact (values1_nil_in F n h7 hro l Bs c a J W hc' h0).mono fun e W' ⟨he, hj⟩ => ⟨he, .inl ⟨_, rfl, hj⟩⟩
  · refine (values1_in F n h7 hro hn l Bs n₀ b off zs.length cap zs hb hlen J Jx hY W hc' hcs h0).mono ?_
    rintro e W' ⟨he, ⟨ys, rfl, hj⟩ | ⟨pre, ⟨k, hk, rfl⟩, hj⟩⟩
    · exact ⟨he, .inl ⟨_, vupto_all zs, hj⟩⟩
    · exact ⟨he, .inr ⟨_, by rw [vupto_take zs hk]; exact List.take_prefix _ _, hj⟩⟩
theorem info3z : (Tryz.prog.info? 3).map (fun i => (i.zero, i.size, i.bytes)) = some (some (.int .i64 0), 1, 8) := by kernel_rfl
set_option maxRecDepth 100000 in
set_option maxHeartbeats 2000000 in
theorem appendSeq_in (F : Fence) (n : Nat) (h3 : F.fn 79) (h5 : F.fn 68) (hro : F.round = none) (hn : 3 ≤ n) (Bs : Nat) (sv : Value) (xs : List Int) (hlen : xs.length ≤ maxLen) (hbytes : xs.length * 8 ≤ 140737488355328) (w : World) (hBs : Bs < w.heap.size)
    (hcs : w.cell? ⟨Bs, 0, none⟩ = some sv) (hL : IntsB w.heap.size w sv xs) :
    CallsIn F n Tryz.prog 79 #[.slice none 0 0, .func (.func 68) #[] #[.pointer (some ⟨Bs, 0, none⟩)]] w fun e W' => ∃ v, e = .returned v ∧ W'.ownsRow w.heap.size 3 1 v xs.length (xs.map (Value.int .i64)) ∧ Below w.heap.size w W' := by
  have h1 : 1 ≤ n := by omega
  obtain ⟨i0, hi, hz0, hz1, hz2⟩ := info_parts info3z
  refine callsIn_of_wp_marks Tryz.func79 rfl h3 ?_ hro
  simp only [Tryz.ntmps79, List.size_toArray, List.length_cons, List.length_nil, Nat.reduceAdd, Nat.reduceSub, Array.replicate_succ, Array.replicate_zero, List.push_toArray, List.append_toArray, List.nil_append, List.cons_append]
  gi_wp2
  have bO := Boxed.new w 36 (.slice none 0 0)
  have hB0 : Below w.heap.size w (w.alloc (.cells #[.slice none 0 0] 36)) := (Below.refl _ w).alloc (Nat.le_refl _) _
  refine wpIn_rangeFunc_ownG hro h1 (gf := 68) (lb := #[.pointer (some ⟨Bs, 0, none⟩)]) rfl h5 (enters_of Tryz.func68 (by kernel_rfl) rfl)
    (values_stops F (n - 1) h5 hro (by omega) Bs w.heap.size sv xs (by unfold maxLen at hlen; omega) _ (by simp; omega) (by simp) ((hB0.cell (p := ⟨Bs, 0, none⟩) hBs).trans hcs) (hL.below hB0)) belowK_t (belowK_b (by simp)) (Below.refl _ _) (fun _ => rfl)
    (fun pre W => (∃ v, Boxed W w.heap.size 36 v ∧ W.ownsRow w.heap.size 3 1 v pre.length (pre.map (Value.int .i64)) ∧ (v = .slice none 0 0 ↔ pre = [])) ∧ Below w.heap.size w W)
    (fun _ _ _ => False)
    (OwnFrom.and (Own.from (holdsRow_own w.heap.size w.heap.size 36 3 1 (fun pre => pre.length) (fun pre => pre.map (Value.int .i64)) (fun pre v => v = .slice none 0 0 ↔ pre = [])) _) (ownFrom_below (Nat.le_refl _) (by simp)))
    (fun _ _ _ _ _ hs _ _ => hs)
    ⟨⟨_, bO, World.ownsRow_nil _ _ _ _, by simp⟩, hB0⟩
    (fun x => { tmps := #[.slice none 0 0, .func (.func 68) #[] #[.pointer (some ⟨Bs, 0, none⟩)], .pointer (some ⟨w.heap.size, 0, none⟩), undef, .slice none 0 0, .int .i64 x, .func (.func 68) #[] #[.pointer (some ⟨Bs, 0, none⟩)], .int .i64 x, undef, undef, undef, undef, undef], defers := [] }) ?assign ?body ?done ?stop
  case assign =>
    intro l x W K hK
    gi_wp2
    exact hK
  case body =>
    rintro l pre x W ⟨⟨v, hv, hrow, hnil⟩, hB⟩ hlt
    have hc := hv.cell
    gi_wp2_with (gi_at_builtin; refine wpListIn_append_own _ rfl _ _ 36 rfl w.heap.size 3 i0 (.int .i64 0) 1 8 Tryz.underlying36 hi hz0 hz1 hz2 rfl (by decide) _ _ _ rfl (hrow.alloc _) ⟨W.heap.size, 0, none⟩ 1 1 [.int .i64 x] rfl rfl (cell_one_new _ _ _) (by simp [Value.oneCell']) (by omega) (by omega) (by have := hB.size; simp; omega) ?_; intro v' w1 hown' hgrow _; obtain ⟨g', cap', rfl⟩ := ownsRow_succ hown'; obtain ⟨hv1, hv2, hr2, hk2, hb2⟩ := hv.appended (by decide) hrow hB.size (Nat.le_refl _) hown' hgrow; have hc1 := hv1.cell; have hf1 := hv1.frozen)
    exact ⟨hk2.from _, hb2, ⟨_, hv2, by simpa using hr2, by simp⟩, hB.trans hb2⟩
  case done =>
    rintro D ys W hD rfl ⟨⟨v, hv, hrow, hnil⟩, hB⟩ hK
    have hc := hv.cell
    gi_wp2
    refine ⟨by simp, .inl ⟨_, _, rfl, run_takeDeferred hK, ?_⟩⟩
    exact ⟨_, results_tmp rfl _ _ _, v, rfl, ownsRow_putObj hrow _ hK rfl, hB.trans (belowK_b (w := w) (Nat.le_refl _) W D _ _ (by simp at hD; omega) hK rfl rfl)⟩
  case stop =>
    rintro D c pre W _ _ h _
    exact h.elim
open Go.SL
theorem ints_of {w : World} {v : Value} {l : List Int} (h : slT encZ 1 v l w) (hlt : ∀ b o : Nat, ∀ u, w.cell? ⟨b, o, none⟩ = some u → b < w.heap.size) : IntsB w.heap.size w v l := by
  obtain ⟨_, _, h⟩ := h
  rcases h with ⟨a, c, rfl, hn⟩ | ⟨b, o, cap, rfl, hle, hr⟩
  · exact .inl ⟨a, c, rfl, by simpa using hn⟩
  · rw [List.length_map]
    have hc : ∀ j, j < l.length → w.cell? ⟨b, o + j, none⟩ = some (.int .i64 (l[j]?.getD 0)) := fun j hj => hr j _ (by
      rw [flat_one (enc0 := Value.int .i64) (enc := encZ) (fun _ => rfl), List.getElem?_map, List.getElem?_eq_getElem hj]; rfl)
    by_cases h0 : l = []
    · subst h0; exact .inl ⟨_, _, rfl, rfl⟩
    · have hpos : 0 < l.length := List.length_pos_iff.2 h0
      exact .inr ⟨b, o, cap, rfl, hlt b _ _ (hc 0 hpos), hc⟩
def NewZ (l : List Int) (lab : Nat) (u : Value) (ρ : RL) : Prop := ∃ a c, u = .slice a l.length c ∧ ρ = [(lab, slW 3 encZ 1 (.slice a l.length c) l)]
theorem appendSeq_any {σ : World} {F : List Res} {b : Nat} {v : Value} {l : List Int} (lab : Nat) (hb : Ent σ F (At ⟨b, 0, none⟩ [v])) (h : Sl σ F encZ 1 v l) (hl : l.length ≤ 1099511627776) :
    FnT Tryz.prog σ F 79 [.slice none 0 0, .func (.func 68) #[] #[.pointer (some ⟨b, 0, none⟩)]] [] (NewZ l lab) := by
  intro w ho
  have ho' : SL.Own σ F w := ho
  have hcell : w.cell? ⟨b, 0, none⟩ = some v := by
    obtain ⟨b', o', e, hr⟩ := hb w ho'
    cases e; exact hr 0 v rfl
  have hlt : ∀ b o : Nat, ∀ u, w.cell? ⟨b, o, none⟩ = some u → b < w.heap.size := fun b o u h => cell_lt h
  refine ((callsIn_wide (n := 3)).1 (appendSeq_in Fence.wide 3 trivial trivial rfl (Nat.le_refl _) b v l (by unfold maxLen; omega) (by omega) w (hlt b 0 v hcell) hcell (ints_of (h.ent w ho') hlt))).mono ?_
  rintro e W' ⟨u, rfl, hrow, hbel⟩
  have hrow' : W'.ownsRow w.heap.size 3 1 u l.length (l.map encZ).flatten := by rw [flat_one (enc0 := Value.int .i64) (enc := encZ) (fun _ => rfl)]; exact hrow
  obtain ⟨a, c, rfl, hown⟩ := own_row ho' hbel hrow' (fun _ => rfl) (by unfold maxLen; omega)
  exact ⟨_, _, rfl, ⟨a, c, rfl, rfl⟩, hown⟩
end Go.Proofs.YtecmigildpkigaaGreat.Ser
namespace Go.Proofs.YtecmigildpkigaaGreat.Ser
open Go Go.SL Go.RowKit
set_option linter.unusedVariables false
set_option linter.unusedSimpArgs false
theorem tMixa : Tryz.prog.follows .mixedOrders = true := by kernel_rfl
theorem tO3a : oneB Tryz.prog 3 = true := by kernel_rfl
theorem tP36a : appB Tryz.prog 36 3 1 8 = true := by kernel_rfl
theorem tS36a : sliceB Tryz.prog 36 3 1 = true := by kernel_rfl
theorem take_snoc {α : Type} {l : List α} {i : Nat} {x : α} (h : l[i]? = some x) : l.take (i + 1) = l.take i ++ [x] := by rw [List.take_add_one, h]; rfl
theorem take_all {α : Type} {l : List α} {i : Nat} (h : ¬ i < l.length) : l.take i = l := List.take_of_length_le (by omega)
def srt (l : List Int) : List Int := l.mergeSort fun x y => decide (x ≤ y)
theorem length_srt (l : List Int) : (srt l).length = l.length := List.length_mergeSort l
theorem mem_srt {l : List Int} {x : Int} : x ∈ srt l ↔ x ∈ l := List.mem_mergeSort
theorem srt_perm (l : List Int) : (srt l).Perm l := List.mergeSort_perm l _
theorem srt_le (l : List Int) : (srt l).Pairwise (· ≤ ·) := by
  have := List.pairwise_mergeSort (le := fun x y : Int => decide (x ≤ y)) (fun a b c h1 h2 => by simp at *; omega) (fun a b => by simp; omega) l
  exact this.imp fun h => by simpa using h
theorem sort_any {σ : World} {F : List Res} {l : List Int} {a : Option Addr} {c : Nat} (lab : Nat) (hl : l.length < 4611686018427387904) :
    FnT Tryz.prog σ F 67 [.slice a l.length c] [(lab, slW 3 encZ 1 (.slice a l.length c) l)] (fun u ρ => u = .tuple #[] ∧ ρ = [(lab, slW 3 encZ 1 (.slice a l.length c) (srt l))]) :=
  fn_sort (enc0 := Value.int .i64) (enc := encZ) (fun _ => rfl) length_srt (fun g cap l w hH hg hl => Tryz.slices_Sort_int g 0 cap l w hH hg hl) (fun a cap w => Tryz.slices_Sort_int_none a cap w) lab hl
set_option maxHeartbeats 400000 in
set_option maxRecDepth 100000 in
theorem cloneI {σ : World} {F : List Res} {a : Option Addr} {c : Nat} {rl : List Int} (lab : Nat) (h : Sl σ F encZ 1 (.slice a rl.length c) rl) (hl : rl.length ≤ 1099511627776) :
    FnT Tryz.prog σ F 33 [.slice a rl.length c] [] (NewZ rl lab) := by
  refine fn_of 8 Tryz.func33 rfl Tryz.ntmps33 rfl ?_
  have hle := h.i64
  refine w_seq (w_region (za rfl (wl_nil (st_tn (w_seq (w_seq (w_region (zm rfl (zd rfl (op_eqNil rfl tS36a) (wl_nil (st_tn (w_cond rfl (fun hc4 => ?_) (fun hc4 => ?_)))))))))))))
  · -- c4.t
    obtain rfl : a = none := by simpa using hc4
    refine w_fact (Ent.app (Sl.nil_of h) _) (fun hnil => ?_)
    subst hnil
    refine w_emp 7 (slO_nil 3 1) ?_
    refine w_seq (w_region (za rfl (wl_nil (st_tn (w_ret (st_tr (st_ret (vs := [_]) [7] Tryz.results33 ⟨rfl, trivial⟩ rfl ?_)))))))
    refine ⟨[(lab, _)], rfl, ?_⟩
    exact ⟨none, 0, rfl, rfl⟩
  · -- c4.f
    refine w_skip (st_tn (w_seq (w_region (wl_op [] rfl rfl rfl rfl (op_lit0 (enc := SL.encZ) (lab := 5) tS36a) ?_))))
    rintro _ _ ⟨a5, c5, rfl, rfl⟩
    refine zm rfl (wl_op [5] rfl rfl rfl rfl (op_append (lab := 5) (lab' := 7) rfl rfl tP36a SL.enc1Z (by first | exact Sl.app (by assumption) _ | exact Sl.app (Sl.app (by assumption) _) _) (by first | omega | (simp; done) | (simp; omega) | (simp [*]; omega)) (by first | omega | (simp; done) | (simp; omega) | (simp [*]; omega))) ?_)
    rintro _ _ ⟨a7, c7, rfl, rfl⟩
    refine za rfl (wl_nil (st_tn (w_ret (st_ret (vs := [_]) [7] Tryz.results33 ⟨rfl, trivial⟩ rfl ?_))))
    refine ⟨[(lab, _)], rfl, ?_⟩
    exact ⟨a7, c7, rfl, rfl⟩
set_option maxHeartbeats 400000 in
set_option maxRecDepth 100000 in
theorem collect_any {σ : World} {F : List Res} {b : Nat} {v : Value} {l : List Int} (lab : Nat) (hb : Ent σ F (At ⟨b, 0, none⟩ [v])) (h : Sl σ F encZ 1 v l) (hl : l.length ≤ 1099511627776) :
    FnT Tryz.prog σ F 66 [.func (.func 68) #[] #[.pointer (some ⟨b, 0, none⟩)]] [] (NewZ l lab) := by
  refine fn_of 5 Tryz.func66 rfl Tryz.ntmps66 rfl ?_
  refine w_seq (w_region (za rfl (wl_nil (st_tn (w_seq (w_region (zm rfl (wl_op [] rfl rfl rfl rfl (op_fn Tryz.func79 rfl rfl rfl (appendSeq_any 4 (Ent.app hb _) (Sl.app h _) hl)) ?_))))))))
  rintro _ _ ⟨a4, c4, rfl, rfl⟩
  refine za rfl (wl_nil (st_tn (w_ret (st_ret (vs := [_]) [4] Tryz.results66 ⟨rfl, trivial⟩ rfl ?_))))
  refine ⟨[(lab, _)], rfl, ?_⟩
  exact ⟨a4, c4, rfl, rfl⟩
set_option maxHeartbeats 400000 in
set_option maxRecDepth 100000 in
theorem sorted_any {σ : World} {F : List Res} {b : Nat} {v : Value} {l : List Int} (lab : Nat) (hb : Ent σ F (At ⟨b, 0, none⟩ [v])) (h : Sl σ F encZ 1 v l) (hl : l.length ≤ 1099511627776) :
    FnT Tryz.prog σ F 48 [.func (.func 68) #[] #[.pointer (some ⟨b, 0, none⟩)]] [] (NewZ (srt l) lab) := by
  refine fn_of 9 Tryz.func48 rfl Tryz.ntmps48 rfl ?_
  refine w_seq (w_region (za rfl (wl_nil (st_tn (w_seq (w_region (zm rfl (wl_op [] rfl rfl rfl rfl (op_fn Tryz.func66 rfl rfl rfl (collect_any 5 (Ent.app hb _) (Sl.app h _) hl)) ?_))))))))
  rintro _ _ ⟨a5, c5, rfl, rfl⟩
  refine za rfl (wl_nil (st_tn (w_seq (w_region (zm rfl (wl_op [5] rfl rfl rfl rfl (op_fn Tryz.func67 rfl rfl rfl (sort_any 5 (by omega))) ?_))))))
  rintro _ _ ⟨rfl, rfl⟩
  refine wl_nil (st_tn (w_seq (w_region (zm rfl (za rfl (wl_nil (st_tn (w_ret (st_ret (vs := [_]) [5] Tryz.results48 ⟨rfl, trivial⟩ rfl ?_)))))))))
  refine ⟨[(lab, _)], rfl, ?_⟩
  exact ⟨a5, c5, by rw [length_srt]; rfl, by rw [length_srt]⟩
set_option maxHeartbeats 400000 in
set_option maxRecDepth 100000 in
theorem values_any {σ : World} {F : List Res} {v : Value} (lab : Nat) :
    FnT Tryz.prog σ F 49 [v] [] (fun u ρ => ∃ b, u = .func (.func 68) #[] #[.pointer (some ⟨b, 0, none⟩)] ∧ ρ = [(lab, cel b v.cells.toList 36)]) := by
  refine fn_of 4 Tryz.func49 rfl Tryz.ntmps49 rfl ?_
  refine w_seq (w_region (wl_op [] rfl rfl rfl rfl (op_box (T := 36) (l := 1) rfl) ?_))
  rintro _ _ ⟨b1, rfl, rfl⟩
  refine za rfl (wl_nil (st_tn (w_seq (w_region (zd rfl (op_makeFunc rfl rfl) (za rfl (wl_nil (st_tn (w_ret (st_ret (vs := [_]) [1] Tryz.results49 ⟨rfl, trivial⟩ rfl ?_))))))))))
  refine ⟨[(lab, _)], rfl, ?_⟩
  exact ⟨b1, rfl, rfl⟩
set_option maxHeartbeats 400000 in
set_option maxRecDepth 100000 in
theorem indexFuncI {σ : World} {F : List Res} {a : Option Addr} {c : Nat} {rl : List Int} {g : Nat} {gn : Func} {fs cs : List Value} {p : Int → Bool} (h : Sl σ F encZ 1 (.slice a rl.length c) rl)
    (hg : Tryz.prog.funcs[g]? = some gn) (hgb : gn.body.isSome = true) (hgn : (gn.name == "runtime.NumGoroutine") = false) (hp : ∀ (X : List Res) (r : Int), FnT Tryz.prog σ (X ++ F) g (fs ++ [.int .i64 r] ++ cs) [] (fun u ρ => u = .bool (p r) ∧ ρ = [])) :
    FnT Tryz.prog σ F 65 [.slice a rl.length c, .func (.func g) fs.toArray cs.toArray] [] (fun u ρ => u = .int .i64 (match rl.findIdx? p with | some i => (i : Int) | none => -1) ∧ ρ = []) := by
  refine fn_of 19 Tryz.func65 rfl Tryz.ntmps65 rfl ?_
  have hle := h.i64
  refine w_seq (w_region (za rfl (wl_nil (st_tn (w_seq (w_seq (w_region (zm rfl (zd rfl (op_lenT rfl tS36a (Sl.ent (by first | exact Sl.app (by assumption) _ | exact Sl.app (Sl.app (by assumption) _) _))) ?_)))))))))
  refine zm rfl (wl_nil (st_tn (w_block ?_)))
  refine w_loopQ (X := Nat) (fun z => z ≤ rl.length ∧ ∀ r ∈ rl.take z, p r = false) (fun z => [(8, .int .i64 (z))]) (fun _ => []) (fun z => rl.length - z) (0) [(0, _), (1, _), (7, _)] [] [] rfl (rfl) (.cons rfl (.nil _)) (.cons rfl (.cons rfl (.cons rfl (.nil _)))) (by
      try dsimp only
      exact ⟨Nat.zero_le _, by simp⟩) ?_
  rintro i ⟨hi, hn⟩
  refine w_norm2 (by dsimp only [List.cons_append, List.nil_append]) (by dsimp only [List.cons_append, List.nil_append]) ?_
  try dsimp only at hi hn ⊢
  refine w_seq (w_region (zd rfl (op_lss rfl rfl) (wl_nil (st_tn (w_seq (w_cond_d rfl (fun hc9 => ?_) (fun hc9 => ?_)))))))
  · -- c9.t
    obtain ⟨r, hr⟩ := getE (l := rl) (i := i) (by omega)
    have hlt := ltE hr
    refine w_skip (st_tn (w_seq (w_block (w_seq (w_region (zm rfl (za rfl (wl_nil (st_tn (w_seq (w_region (zm rfl (zm rfl ?_)))))))))))))
    refine zm rfl (zd rfl (op_idx rfl rfl tS36a (Sl.ent (by first | exact Sl.app (by assumption) _ | exact Sl.app (Sl.app (by assumption) _) _)) (by omega)) ?_)
    refine zd rfl (op_ldx rfl tO3a (by first | exact Sl.app (by assumption) _ | exact Sl.app (Sl.app (by assumption) _) _) (by assumption) (by rfl)) ?_
    refine zd rfl (op_fnv hg hgb hgn rfl rfl (hp _ r)) (wl_nil (st_tn (w_cond rfl (fun hc16 => ?_) (fun hc16 => ?_))))
    · -- c16.t
      refine w_seq (w_region (zm rfl (za rfl (wl_nil (st_tn (w_ret (st_br (st_tr (st_tr (st_br (st_tr (st_ret (vs := [_]) [] Tryz.results65 ⟨rfl, trivial⟩ rfl ?_))))))))))))
      refine ⟨_, rfl, ?_⟩
      refine ⟨?_, rfl⟩
      have : rl.findIdx? p = some i := by
        rw [List.findIdx?_eq_some_iff_getElem]
        obtain ⟨hlt', hge⟩ := List.getElem?_eq_some_iff.1 hr
        refine ⟨hlt', by rw [hge]; exact hc16, fun j hj => ?_⟩
        rw [hn _ (List.mem_take_iff_getElem.2 ⟨j, by omega, rfl⟩)]; simp
      rw [this]; rfl
    · -- c16.f
      refine w_skip (st_bn (st_tn (w_region (zd rfl (op_add' rfl rfl (by omega)) ?_))))
      refine zm rfl (wl_nil ?_)
      refine st_roundQ (x := i) (i + 1) [] rfl (rfl) (.cons rfl (.nil _)) (.cons rfl (.cons rfl (.cons rfl (.nil _)))) (by
          try dsimp only
          refine ⟨by omega, by rw [take_snoc hr]; intro q hq; rcases List.mem_append.1 hq with hq | hq; (· exact hn q hq); (· simp at hq; subst hq; exact hc16)⟩) (by
          try dsimp only
          omega)
  · -- c9.f
    refine w_exit (st_te ?_)
    refine st_te ?_
    refine st_be (st_tn (w_seq (w_region (za rfl (wl_nil (st_tn (w_ret (st_ret (vs := [_]) [] Tryz.results65 ⟨rfl, trivial⟩ rfl ?_))))))))
    refine ⟨_, rfl, ?_⟩
    refine ⟨?_, rfl⟩; rw [take_all (by omega)] at hn
    have : rl.findIdx? p = none := by rw [List.findIdx?_eq_none_iff]; exact hn
    rw [this]; rfl
set_option maxHeartbeats 400000 in
set_option maxRecDepth 100000 in
theorem containsFuncI {σ : World} {F : List Res} {a : Option Addr} {c : Nat} {rl : List Int} {g : Nat} {gn : Func} {fs cs : List Value} {p : Int → Bool} (h : Sl σ F encZ 1 (.slice a rl.length c) rl)
    (hg : Tryz.prog.funcs[g]? = some gn) (hgb : gn.body.isSome = true) (hgn : (gn.name == "runtime.NumGoroutine") = false) (hp : ∀ (X : List Res) (r : Int), FnT Tryz.prog σ (X ++ F) g (fs ++ [.int .i64 r] ++ cs) [] (fun u ρ => u = .bool (p r) ∧ ρ = [])) :
    FnT Tryz.prog σ F 46 [.slice a rl.length c, .func (.func g) fs.toArray cs.toArray] [] (fun u ρ => u = .bool (rl.any p) ∧ ρ = []) := by
  refine fn_of 9 Tryz.func46 rfl Tryz.ntmps46 rfl ?_
  refine w_seq (w_region (za rfl (wl_nil (st_tn (w_seq (w_region (zm rfl (zm rfl (zd rfl (op_fn Tryz.func65 rfl rfl rfl (indexFuncI (Sl.app h _) hg hgb hgn (fun X r => by simpa using hp (X ++ rs []) r))) ?_)))))))))
  refine zd rfl (op_geq rfl rfl) (za rfl (wl_nil (st_tn (w_ret (st_ret (vs := [_]) [] Tryz.results46 ⟨rfl, trivial⟩ rfl ?_)))))
  refine ⟨_, rfl, ?_⟩
  refine ⟨?_, rfl⟩
  cases hf : rl.findIdx? p with
  | none => rw [List.findIdx?_eq_none_iff] at hf; simp [retv]; intro x hx; exact hf x hx
  | some i => obtain ⟨hlt, h1, _⟩ := List.findIdx?_eq_some_iff_getElem.1 hf; simp [retv]; exact ⟨_, List.getElem_mem hlt, h1⟩
set_option maxHeartbeats 400000 in
set_option maxRecDepth 100000 in
theorem equalI {σ : World} {F : List Res} {a b : Option Addr} {c d : Nat} {l m : List Int} (h : Sl σ F encZ 1 (.slice a l.length c) l) (g : Sl σ F encZ 1 (.slice b m.length d) m) :
    FnT Tryz.prog σ F 30 [.slice a l.length c, .slice b m.length d] [] (fun u ρ => u = .bool (decide (l = m)) ∧ ρ = []) := by
  refine fn_of 26 Tryz.func30 rfl Tryz.ntmps30 rfl ?_
  have hle := h.i64
  have gle := g.i64
  refine w_seq (w_region (za rfl (wl_nil (st_tn (w_seq (w_seq (w_region (zm rfl (zd rfl (op_lenT rfl tS36a (Sl.ent (by first | exact Sl.app (by assumption) _ | exact Sl.app (Sl.app (by assumption) _) _))) ?_)))))))))
  refine zm rfl (zd rfl (op_lenT rfl tS36a (Sl.ent (by first | exact Sl.app (by assumption) _ | exact Sl.app (Sl.app (by assumption) _) _))) ?_)
  refine zd rfl (op_neq rfl rfl) (wl_nil (st_tn (w_cond_d rfl (fun hc10 => ?_) (fun hc10 => ?_))))
  · -- c10.t
    refine w_seq (w_region (za rfl (wl_nil (st_tn (w_ret (st_tr (st_ret (vs := [_]) [] Tryz.results30 ⟨rfl, trivial⟩ rfl ?_)))))))
    refine ⟨_, rfl, ?_⟩
    refine ⟨?_, rfl⟩; have : l ≠ m := fun e => by subst e; exact hc10 rfl
    simp [retv, this]
  · -- c10.f
    refine w_skip (st_tn (w_seq (w_seq (w_region (zm rfl (zd rfl (op_lenT rfl tS36a (Sl.ent (by first | exact Sl.app (by assumption) _ | exact Sl.app (Sl.app (by assumption) _) _))) ?_))))))
    refine zm rfl (wl_nil (st_tn (w_block ?_)))
    refine w_loopQ (X := Nat) (fun z => z ≤ l.length ∧ l.take z = m.take z) (fun z => [(13, .int .i64 (z))]) (fun _ => []) (fun z => l.length - z) (0) [(0, _), (1, _), (12, _)] [] [] rfl (rfl) (.cons rfl (.nil _)) (.cons rfl (.cons rfl (.cons rfl (.nil _)))) (by
        try dsimp only
        exact ⟨Nat.zero_le _, by simp⟩) ?_
    rintro i ⟨hi, hn⟩
    refine w_norm2 (by dsimp only [List.cons_append, List.nil_append]) (by dsimp only [List.cons_append, List.nil_append]) ?_
    try dsimp only at hi hn ⊢
    refine w_seq (w_region (zd rfl (op_lss rfl rfl) (wl_nil (st_tn (w_seq (w_cond_d rfl (fun hc14 => ?_) (fun hc14 => ?_)))))))
    · -- c14.t
      obtain ⟨y, hy⟩ := getE (l := l) (i := i) (by omega)
      obtain ⟨z, hz⟩ := getE (l := m) (i := i) (by omega)
      have hlt := ltE hy
      refine w_skip (st_tn (w_seq (w_block (w_seq (w_region (zm rfl (za rfl (wl_nil (st_tn (w_seq ?_))))))))))
      refine w_draw (D := [⟨16, [], [], [], _, false, [], []⟩, ⟨17, [], [], [], _, false, [], []⟩, ⟨18, [0, 1], [], [], _, false, [], []⟩, ⟨19, [2], [], [], _, false, [], []⟩, ⟨20, [], [], [], _, false, [], []⟩, ⟨21, [], [], [], _, false, [], []⟩, ⟨22, [4, 5], [], [], _, false, [], []⟩, ⟨23, [6], [], [], _, false, [], []⟩]) [] [0, 5, 1] [⟨16, [], [], false, [], []⟩, ⟨17, [], [], false, [], []⟩, ⟨18, [0, 1], [], false, [], []⟩, ⟨19, [2], [], false, [], []⟩, ⟨20, [], [], false, [], []⟩, ⟨21, [], [], false, [], []⟩, ⟨22, [4, 5], [], false, [], []⟩, ⟨23, [6], [], false, [], []⟩] tMixa (by rfl) (by kernel_rfl) (by rfl) (by rfl)
          ⟨.plain rfl (by intro X; exact op_move rfl),
          ⟨.plain rfl (by intro X; exact op_move rfl),
          ⟨.plain rfl (by intro X; rintro _ _ ⟨rfl, rfl⟩ _ _ ⟨rfl, rfl⟩; exact op_idx rfl rfl tS36a (Sl.ent (by first | exact Sl.app (by assumption) _ | exact Sl.app (Sl.app (by assumption) _) _)) (by omega)),
          ⟨.plain rfl (by intro X; rintro _ _ ⟨rfl, rfl⟩; exact op_ldx rfl tO3a (by first | exact Sl.app (by assumption) _ | exact Sl.app (Sl.app (by assumption) _) _) (by assumption) (by rfl)),
          ⟨.plain rfl (by intro X; exact op_move rfl),
          ⟨.plain rfl (by intro X; exact op_move rfl),
          ⟨.plain rfl (by intro X; rintro _ _ ⟨rfl, rfl⟩ _ _ ⟨rfl, rfl⟩; exact op_idx rfl rfl tS36a (Sl.ent (by first | exact Sl.app (by assumption) _ | exact Sl.app (Sl.app (by assumption) _) _)) (by omega)),
          ⟨.plain rfl (by intro X; rintro _ _ ⟨rfl, rfl⟩; exact op_ldx rfl tO3a (by first | exact Sl.app (by assumption) _ | exact Sl.app (Sl.app (by assumption) _) _) (by assumption) (by rfl)),
          trivial⟩⟩⟩⟩⟩⟩⟩⟩ ?_
      rintro _ _ ⟨rfl, rfl⟩ _ _ ⟨rfl, rfl⟩ _ _ ⟨rfl, rfl⟩ _ _ ⟨rfl, rfl⟩ _ _ ⟨rfl, rfl⟩ _ _ ⟨rfl, rfl⟩ _ _ ⟨rfl, rfl⟩ _ _ ⟨rfl, rfl⟩
      refine wl_norm (e' := [(0, _), (1, _), (12, _), (13, _), (19, _), (23, _)]) (.cons rfl (.cons rfl (.cons rfl (.cons rfl (.cons rfl (.cons rfl (.nil _))))))) (by dsimp only [cond_false, cond_true, List.nil_append, List.cons_append]) ?_
      refine zd rfl (op_neq rfl rfl) (wl_nil (st_tn (w_cond_d rfl (fun hc24 => ?_) (fun hc24 => ?_))))
      · -- c24.t
        refine w_seq (w_region (za rfl (wl_nil (st_tn (w_ret (st_br (st_tr (st_tr (st_br (st_tr (st_ret (vs := [_]) [] Tryz.results30 ⟨rfl, trivial⟩ rfl ?_)))))))))))
        refine ⟨_, rfl, ?_⟩
        refine ⟨?_, rfl⟩; have : l ≠ m := fun e => by subst e; rw [hy] at hz; simp at hz; exact hc24 hz
        simp [retv, this]
      · -- c24.f
        refine w_skip (st_bn (st_tn (w_region (zd rfl (op_add' rfl rfl (by omega)) ?_))))
        refine zm rfl (wl_nil ?_)
        refine st_roundQ (x := i) (i + 1) [] rfl (rfl) (.cons rfl (.nil _)) (.cons rfl (.cons rfl (.cons rfl (.nil _)))) (by
            try dsimp only
            exact ⟨by omega, by rw [take_snoc hy, take_snoc hz, hn, show y = z by omega]⟩) (by
            try dsimp only
            omega)
    · -- c14.f
      refine w_exit (st_te ?_)
      refine st_te ?_
      refine st_be (st_tn (w_seq (w_region (za rfl (wl_nil (st_tn (w_ret (st_ret (vs := [_]) [] Tryz.results30 ⟨rfl, trivial⟩ rfl ?_))))))))
      refine ⟨_, rfl, ?_⟩
      refine ⟨?_, rfl⟩; rw [take_all (by omega), take_all (by omega)] at hn; simp [retv, hn]
end Go.Proofs.YtecmigildpkigaaGreat.Ser
namespace Go.Proofs.YtecmigildpkigaaGreat.Ser
open Go Go.SL Go.RowKit
set_option linter.unusedVariables false
set_option linter.unusedSimpArgs false
theorem tA35b : aggB Tryz.prog 35 2 = true := by kernel_rfl
theorem tB35b : placesB Tryz.prog 35 = some ([(0, 1), (1, 1)], [Value.int .i64 0, Value.int .i64 0]) := by kernel_rfl
theorem tF35_0b : fieldB Tryz.prog 35 0 0 = true := by kernel_rfl
theorem tMixb : Tryz.prog.follows .mixedOrders = true := by kernel_rfl
theorem tN35b : (Tryz.prog.info? 35).bind (·.zero) = some (Value.agg #[Value.int .i64 0, Value.int .i64 0]) := by kernel_rfl
theorem tO3b : oneB Tryz.prog 3 = true := by kernel_rfl
theorem tZ3b : (Tryz.prog.info? 3).map (·.size) = some 1 := by kernel_rfl
theorem tZ35b : (Tryz.prog.info? 35).map (·.size) = some 2 := by kernel_rfl
theorem eq24 (a b c d : Int) (w : World) : (Op.equal 35 (.agg #[.int .i64 a, .int .i64 b]) (.agg #[.int .i64 c, .int .i64 d])).run Tryz.prog w = .ok (decide ((a, b) = (c, d))) w := by
  have hs : Tryz.prog.stoodInHeld 35 = false := by kernel_rfl
  have hf : Tryz.prog.fieldsOf 35 = #[{ name := "Num", type := 3, offset := 0, embedded := false, tag := "", pkgPath := "", byteOffset := 0 }, { name := "Den", type := 3, offset := 1, embedded := false, tag := "", pkgPath := "", byteOffset := 8 }] := by kernel_rfl
  have ha : ∀ w, (isAgg 3).run Tryz.prog w = .ok false w := fun w => by unfold isAgg; rw [Sem.run_bind, run_underlying Tryz.underlying3 w]; rfl
  show (Op.equalIn (9999 + 1) 35 _ _).run Tryz.prog w = _
  rw [run_equalIn_agg w 9999 35 _ _ (by kernel_rfl) hs, hf]
  simp only [Op.eqFields, List.toList_toArray]
  simp [part, Sem.run_bind, ha, run_equalIn_int w 9998 3 .i64 .i64 _ _ Tryz.underlying3, Op.eqFields]
  by_cases h1 : a = c <;> by_cases h2 : b = d <;> simp [h1, h2, part, Sem.run_bind, ha, run_equalIn_int w 9998 3 .i64 .i64 _ _ Tryz.underlying3, Op.eqFields]
set_option maxHeartbeats 400000 in
set_option maxRecDepth 100000 in
theorem gcd_any {σ : World} {F : List Res} (a b : Nat) (ha : a ≤ 18446744073709551615) (hb : b ≤ 18446744073709551615) :
    FnT Tryz.prog σ F 87 [.int .u64 a, .int .u64 b] [] (fun u ρ => u = .int .u64 (Nat.gcd a b : Nat) ∧ ρ = []) := by
  refine fn_of 12 Tryz.func87 rfl Tryz.ntmps87 rfl ?_
  refine w_seq (w_region (za rfl (wl_nil (st_tn (w_seq (w_block ?_))))))
  refine w_loopQ (X := Nat × Nat) (fun z => (z.1 ≤ 18446744073709551615 ∧ z.2 ≤ 18446744073709551615) ∧ Nat.gcd z.1 z.2 = Nat.gcd a b) (fun z => [(0, .int .u64 (z.1)), (1, .int .u64 (z.2))]) (fun _ => []) (fun z => z.2) ((a, b)) [] [] [] rfl (rfl) (.cons rfl (.cons rfl (.nil _))) (.nil _) (by
      try dsimp only
      exact ⟨⟨ha, hb⟩, rfl⟩) ?_
  rintro ⟨x, y⟩ ⟨⟨hx, hy⟩, hg⟩
  refine w_norm2 (by dsimp only [List.cons_append, List.nil_append]) (by dsimp only [List.cons_append, List.nil_append]) ?_
  try dsimp only at hx hy hg ⊢
  refine w_seq (w_seq (w_region (zm rfl (zd rfl (op_neq rfl rfl) (wl_nil (st_tn (w_cond_d rfl (fun hc6 => ?_) (fun hc6 => ?_))))))))
  · -- c6.t
    refine w_skip (st_tn (w_block ?_))
    refine w_draw (D := [⟨7, [], [], [], _, false, [], []⟩, ⟨8, [], [], [], _, false, [], [0]⟩, ⟨9, [], [], [], _, false, [], []⟩, ⟨10, [1, 2], [], [], _, false, [], []⟩, ⟨0, [0], [], [], _, false, [], []⟩]) [] [1] [⟨7, [], [], false, [], []⟩, ⟨8, [], [], false, [], [0]⟩, ⟨9, [], [], false, [], []⟩, ⟨10, [1, 2], [], false, [], []⟩, ⟨0, [0], [], false, [], []⟩] tMixb (by rfl) (by kernel_rfl) (by rfl) (by rfl)
        ⟨.plain rfl (by intro X; exact op_move rfl),
        ⟨.plain rfl (by intro X; exact op_move rfl),
        ⟨.plain rfl (by intro X; exact op_move rfl),
        ⟨.plain rfl (by intro X; rintro _ _ ⟨rfl, rfl⟩ _ _ ⟨rfl, rfl⟩; exact op_remN rfl rfl (by omega) (by omega)),
        ⟨.plain rfl (by intro X; rintro _ _ ⟨rfl, rfl⟩; exact op_assign rfl),
        trivial⟩⟩⟩⟩⟩ ?_
    rintro _ _ ⟨rfl, rfl⟩ _ _ ⟨rfl, rfl⟩ _ _ ⟨rfl, rfl⟩ _ _ ⟨rfl, rfl⟩ _ _ ⟨rfl, rfl⟩
    refine wl_norm (e' := [(0, _), (10, _)]) (.cons rfl (.cons rfl (.nil _))) (by dsimp only [cond_false, cond_true, List.nil_append, List.cons_append]) ?_
    refine za rfl (wl_nil (st_bn ?_))
    refine st_roundQ (x := (x, y)) ((y, x % y)) [] rfl (rfl) (.cons rfl (.cons rfl (.nil _))) (.nil _) (by
        try dsimp only
        exact ⟨⟨hy, by have := Nat.mod_lt x (show 0 < y by omega); omega⟩, by rw [← hg, Nat.gcd_comm x y, Nat.gcd_rec y x, Nat.gcd_comm]⟩) (by
        try dsimp only
        exact Nat.mod_lt x (by omega))
  · -- c6.f
    refine w_exit (st_te ?_)
    refine st_te ?_
    refine st_be (st_tn (w_seq (w_region (zm rfl (za rfl (wl_nil (st_tn (w_ret (st_ret (vs := [_]) [] Tryz.results87 ⟨rfl, trivial⟩ rfl ?_)))))))))
    refine ⟨_, rfl, ?_⟩
    refine ⟨?_, rfl⟩; have h0 : y = 0 := by omega
    subst h0; rw [← hg, Nat.gcd_zero_right]; rfl
set_option maxHeartbeats 400000 in
set_option maxRecDepth 100000 in
theorem mag_any {σ : World} {F : List Res} (x : Int) (hx : -9223372036854775808 ≤ x ∧ x ≤ 9223372036854775807) :
    FnT Tryz.prog σ F 86 [.int .i64 x] [] (fun u ρ => u = .int .u64 (x.natAbs : Nat) ∧ ρ = []) := by
  refine fn_of 10 Tryz.func86 rfl Tryz.ntmps86 rfl ?_
  refine w_seq (w_region (za rfl (wl_nil (st_tn (w_seq (w_seq (w_region (zm rfl (zd rfl (op_lss rfl rfl) (wl_nil (st_tn (w_cond_d rfl (fun hc4 => ?_) (fun hc4 => ?_)))))))))))))
  · -- c4.t
    refine w_seq (w_region (zm rfl (zd rfl (op_val (v' := .int .u64 (x + 18446744073709551616)) (by rw [wrap_u64_neg (by omega)]) (op_conv rfl (by rw [Tryz.underlying3]; rfl) Tryz.underlying159)) ?_)))
    refine zd rfl (op_val (v' := .int .u64 (-x)) (by rw [show (0 : Int) - (x + 18446744073709551616) = -x - 18446744073709551616 by omega]; simp [IntKind.wrap, IntKind.bits, IntKind.signed]; omega) (op_negK rfl)) ?_
    refine za rfl (wl_nil (st_tn (w_ret (st_tr (st_ret (vs := [_]) [] Tryz.results86 ⟨rfl, trivial⟩ rfl ?_)))))
    refine ⟨_, rfl, ?_⟩
    refine ⟨?_, rfl⟩; show Value.int .u64 (-x) = _; congr 1; omega
  · -- c4.f
    refine w_skip (st_tn (w_seq (w_region (zm rfl (zd rfl (op_convU64 rfl (by rw [Tryz.underlying3]; rfl) Tryz.underlying159 (by omega)) ?_)))))
    refine za rfl (wl_nil (st_tn (w_ret (st_ret (vs := [_]) [] Tryz.results86 ⟨rfl, trivial⟩ rfl ?_))))
    refine ⟨_, rfl, ?_⟩
    refine ⟨?_, rfl⟩; show Value.int .u64 x = _; congr 1; omega
def mkF (num den : Int) : Int × Int × Int :=
  if den = 0 then (0, 0, 19) else
  if num.natAbs / Nat.gcd num.natAbs den.natAbs > 1048576 ∨ den.natAbs / Nat.gcd num.natAbs den.natAbs > 1048576 then (0, 0, 20) else
  ((if (decide (num < 0)) != (decide (den < 0)) then -((num.natAbs / Nat.gcd num.natAbs den.natAbs : Nat) : Int) else ((num.natAbs / Nat.gcd num.natAbs den.natAbs : Nat) : Int)), ((den.natAbs / Nat.gcd num.natAbs den.natAbs : Nat) : Int), 0)
theorem mkF_ok {num den : Int} (h : mkF num den = (num, den, 0)) : den ≠ 0 ∧ -1048576 ≤ num ∧ num ≤ 1048576 ∧ 0 ≤ den ∧ den ≤ 1048576 := by
  unfold mkF at h
  split at h
  · simp at h
  · rename_i h0
    split at h
    · simp at h
    · rename_i h1
      simp only [Prod.mk.injEq] at h
      obtain ⟨e1, e2, _⟩ := h
      refine ⟨h0, ?_⟩
      generalize num.natAbs / Nat.gcd num.natAbs den.natAbs = p at *
      generalize den.natAbs / Nat.gcd num.natAbs den.natAbs = q at *
      split at e1 <;> omega
set_option maxHeartbeats 1000000 in
set_option maxRecDepth 100000 in
theorem mk_any {σ : World} {F : List Res} (x y : Int) (hx : -9223372036854775808 ≤ x ∧ x ≤ 9223372036854775807) (hy : -9223372036854775808 ≤ y ∧ y ≤ 9223372036854775807) :
    FnT Tryz.prog σ F 78 [.int .i64 x, .int .i64 y] [] (fun u ρ => u = .tuple #[.agg #[.int .i64 (mkF x y).1, .int .i64 (mkF x y).2.1], .int .i64 (mkF x y).2.2] ∧ ρ = []) := by
  refine fn_of 48 Tryz.func78 rfl Tryz.ntmps78 rfl ?_
  have hax : x.natAbs ≤ 9223372036854775808 := by omega
  have hay : y.natAbs ≤ 9223372036854775808 := by omega
  refine w_seq (w_region (wl_op [] rfl rfl rfl rfl (op_alloc (l := 4) tN35b) ?_))
  rintro _ _ ⟨b4, rfl, rfl⟩
  refine za rfl (wl_nil (st_tn (w_seq (w_seq (w_region (zm rfl (zd rfl (op_eql rfl rfl) (wl_nil (st_tn (w_cond_d rfl (fun hc11 => ?_) (fun hc11 => ?_)))))))))))
  · -- c11.t
    refine w_seq (w_region (zd rfl (op_build tB35b rfl rfl) (wl_op0 [4] rfl rfl rfl (op_store rfl rfl tZ35b (by rfl) (by rfl) (by exact Nat.le_of_ble_eq_true rfl)) ?_)))
    rintro _ _ ⟨rfl, rfl⟩
    refine za rfl (wl_nil (st_tn (w_ret (st_tr (st_ret (vs := [_, _]) [] Tryz.results78 ⟨⟨_, rfl, Ent.mono (Ent.lab (l := 4) rfl (says_cel 0)) (fun _ h => run_load_agg tA35b h (Nat.le_of_ble_eq_true rfl))⟩, ⟨rfl, trivial⟩⟩ rfl ?_)))))
    refine ⟨_, rfl, ?_⟩
    rw [show mkF x y = (0, 0, 19) by unfold mkF; rw [if_pos hc11]]; exact ⟨rfl, rfl⟩
  · -- c11.f
    have hgp : 0 < Nat.gcd x.natAbs y.natAbs := Nat.gcd_pos_of_pos_right _ (by omega)
    have hqx : ((x.natAbs : Int) / (Nat.gcd x.natAbs y.natAbs : Nat)) = ((x.natAbs / Nat.gcd x.natAbs y.natAbs : Nat) : Int) := by rw [Int.natCast_ediv]
    have hqy : ((y.natAbs : Int) / (Nat.gcd x.natAbs y.natAbs : Nat)) = ((y.natAbs / Nat.gcd x.natAbs y.natAbs : Nat) : Int) := by rw [Int.natCast_ediv]
    refine w_skip (st_tn (w_seq (w_region (zm rfl (zd rfl (op_fn Tryz.func86 rfl rfl rfl (mag_any _ (by omega))) ?_)))))
    refine zm rfl (zd rfl (op_fn Tryz.func86 rfl rfl rfl (mag_any _ (by omega))) ?_)
    refine za rfl (za rfl (wl_nil (st_tn (w_seq (w_region (zm rfl (zm rfl (zd rfl (op_fn Tryz.func87 rfl rfl rfl (gcd_any _ _ (by omega) (by omega))) ?_))))))))
    refine za rfl (wl_nil (st_tn (w_seq ?_)))
    refine w_draw (D := [⟨20, [], [], [], _, false, [], [6]⟩, ⟨21, [], [], [], _, false, [], []⟩, ⟨22, [0, 1], [], [], _, false, [], []⟩, ⟨23, [], [], [], _, false, [], []⟩, ⟨24, [], [], [], _, false, [], []⟩, ⟨25, [3, 4], [], [], _, false, [], []⟩, ⟨6, [2], [], [], _, false, [], []⟩]) [] [8, 7] [⟨20, [], [], false, [], [6]⟩, ⟨21, [], [], false, [], []⟩, ⟨22, [0, 1], [], false, [], []⟩, ⟨23, [], [], false, [], []⟩, ⟨24, [], [], false, [], []⟩, ⟨25, [3, 4], [], false, [], []⟩, ⟨6, [2], [], false, [], []⟩] tMixb (by rfl) (by kernel_rfl) (by rfl) (by rfl)
        ⟨.plain rfl (by intro X; exact op_move rfl),
        ⟨.plain rfl (by intro X; exact op_move rfl),
        ⟨.plain rfl (by intro X; rintro _ _ ⟨rfl, rfl⟩ _ _ ⟨rfl, rfl⟩; exact op_val (v' := .int .u64 ((x.natAbs / Nat.gcd x.natAbs y.natAbs : Nat) : Int)) (by rw [hqx]) (op_quoU rfl rfl (by omega) (by omega) (by omega))),
        ⟨.plain rfl (by intro X; exact op_move rfl),
        ⟨.plain rfl (by intro X; exact op_move rfl),
        ⟨.plain rfl (by intro X; rintro _ _ ⟨rfl, rfl⟩ _ _ ⟨rfl, rfl⟩; exact op_val (v' := .int .u64 ((y.natAbs / Nat.gcd x.natAbs y.natAbs : Nat) : Int)) (by rw [hqy]) (op_quoU rfl rfl (by omega) (by omega) (by omega))),
        ⟨.plain rfl (by intro X; rintro _ _ ⟨rfl, rfl⟩; exact op_assign rfl),
        trivial⟩⟩⟩⟩⟩⟩⟩ ?_
    rintro _ _ ⟨rfl, rfl⟩ _ _ ⟨rfl, rfl⟩ _ _ ⟨rfl, rfl⟩ _ _ ⟨rfl, rfl⟩ _ _ ⟨rfl, rfl⟩ _ _ ⟨rfl, rfl⟩ _ _ ⟨rfl, rfl⟩
    refine wl_norm (e' := [(0, _), (1, _), (4, _), (6, _), (25, _)]) (.cons rfl (.cons rfl (.cons rfl (.cons rfl (.cons rfl (.nil _)))))) (by dsimp only [cond_false, cond_true, List.nil_append, List.cons_append]) ?_
    refine za rfl (wl_nil (st_tn (w_seq (w_seq ?_))))
    generalize hp : x.natAbs / Nat.gcd x.natAbs y.natAbs = p
    generalize hq : y.natAbs / Nat.gcd x.natAbs y.natAbs = q
    refine w_cutL [(31, .bool (decide (p > 1048576 ∨ q > 1048576)))] [0, 1, 4, 6, 7] [4] rfl (fun K' hK => ?_) ?_
    · -- cut r6
      refine w_region (zm rfl (zd rfl (op_gtr rfl rfl) (zm rfl (wl_gsplit (t := 28) rfl (fun hg28 => ?_) (fun hg28 => ?_)))))
      · -- 28 is True
        refine wl_unwanted rfl rfl rfl rfl rfl rfl rfl rfl (wl_unwanted rfl rfl rfl rfl rfl rfl rfl rfl (zd rfl (op_pick_t rfl rfl) (wl_nil (st_tn ?_))))
        exact cut_done1 [4] hK rfl (by first | (rw [decide_eq_decide]; omega) | (symm; rw [decide_eq_false_iff_not]; omega) | (symm; rw [decide_eq_true_iff]; omega) | (simp; done) | (simp; omega) | (simp [*]; done) | (simp [*]; omega)) (by rfl) rfl rfl
      · -- 28 is False
        refine wl_wanted_det rfl rfl rfl rfl rfl rfl rfl (op_move rfl) (wl_wanted_det rfl rfl rfl rfl rfl rfl rfl (op_gtr rfl rfl) (zd rfl (op_pick_f rfl rfl) (wl_nil (st_tn ?_))))
        exact cut_done1 [4] hK rfl (by first | (rw [decide_eq_decide]; omega) | (symm; rw [decide_eq_false_iff_not]; omega) | (symm; rw [decide_eq_true_iff]; omega) | (simp; done) | (simp; omega) | (simp [*]; done) | (simp [*]; omega)) (by rfl) rfl rfl
    · -- behind r6
      show W _ _ _ _ _ [(31, _), (0, _), (1, _), (4, _), (6, _), (7, _)] [(4, _)] _
      refine w_cond_d rfl (fun hc31 => ?_) (fun hc31 => ?_)
      · -- c31.t
        refine w_seq (w_region (zd rfl (op_build tB35b rfl rfl) (wl_op0 [4] rfl rfl rfl (op_store rfl rfl tZ35b (by rfl) (by rfl) (by exact Nat.le_of_ble_eq_true rfl)) ?_)))
        rintro _ _ ⟨rfl, rfl⟩
        refine za rfl (wl_nil (st_tn (w_ret (st_tr (st_ret (vs := [_, _]) [] Tryz.results78 ⟨⟨_, rfl, Ent.mono (Ent.lab (l := 4) rfl (says_cel 0)) (fun _ h => run_load_agg tA35b h (Nat.le_of_ble_eq_true rfl))⟩, ⟨rfl, trivial⟩⟩ rfl ?_)))))
        refine ⟨_, rfl, ?_⟩
        rw [show mkF x y = (0, 0, 20) by unfold mkF; rw [if_neg hc11, hp, hq, if_pos hc31]]; exact ⟨rfl, rfl⟩
      · -- c31.f
        refine w_skip (st_tn (w_seq (w_region (zm rfl (zd rfl (op_convI64 rfl (by rw [Tryz.underlying159]; rfl) Tryz.underlying3 (by omega)) ?_)))))
        refine zm rfl (zd rfl (op_convI64 rfl (by rw [Tryz.underlying159]; rfl) Tryz.underlying3 (by omega)) ?_)
        refine zd rfl (op_build tB35b rfl rfl) (wl_op [] rfl rfl rfl rfl (op_alloc (l := 9) tN35b) ?_)
        rintro _ _ ⟨b9, rfl, rfl⟩
        refine wl_op0 [9] rfl rfl rfl (op_store rfl rfl tZ35b (by rfl) (by rfl) (by exact Nat.le_of_ble_eq_true rfl)) ?_
        rintro _ _ ⟨rfl, rfl⟩
        refine wl_nil (st_tn (w_seq (w_seq (w_region (zm rfl (zd rfl (op_lss rfl rfl) (zm rfl (zd rfl (op_lss rfl rfl) (zd rfl (op_neB rfl rfl Tryz.underlying4) (wl_nil (st_tn (w_cond rfl (fun hc42 => ?_) (fun hc42 => ?_)))))))))))))
        · -- c42.t
          refine w_region (zd rfl (op_fieldAddr (off := 0) rfl tF35_0b) (zd rfl (op_load1 rfl tO3b (Ent.lab (l := 9) rfl (says_cel 0))) (zd rfl (op_neg rfl (by omega)) ?_)))
          refine zd rfl (op_fieldAddr (off := 0) rfl tF35_0b) (wl_op0 [9] rfl rfl rfl (op_store rfl rfl tZ3b (by rfl) (by rfl) (by exact Nat.le_of_ble_eq_true rfl)) ?_)
          rintro _ _ ⟨rfl, rfl⟩
          refine wl_nil (st_tn (w_seq (w_region (zd rfl (op_loadA rfl tA35b (Ent.lab (l := 9) rfl (says_cel 0)) (Nat.le_of_ble_eq_true rfl)) (wl_op0 [4] rfl rfl rfl (op_store rfl rfl tZ35b (by rfl) (by rfl) (by exact Nat.le_of_ble_eq_true rfl)) ?_)))))
          rintro _ _ ⟨rfl, rfl⟩
          refine za rfl (wl_nil (st_tn (w_ret (st_ret (vs := [_, _]) [] Tryz.results78 ⟨⟨_, rfl, Ent.mono (Ent.lab (l := 4) rfl (says_cel 0)) (fun _ h => run_load_agg tA35b h (Nat.le_of_ble_eq_true rfl))⟩, ⟨rfl, trivial⟩⟩ rfl ?_))))
          refine ⟨_, rfl, ?_⟩
          refine ⟨?_, rfl⟩
          unfold mkF; rw [if_neg hc11, hp, hq, if_neg hc31, hc42]; rfl
        · -- c42.f
          refine w_skip (st_tn (w_seq (w_region (zd rfl (op_loadA rfl tA35b (Ent.lab (l := 9) rfl (says_cel 0)) (Nat.le_of_ble_eq_true rfl)) (wl_op0 [4] rfl rfl rfl (op_store rfl rfl tZ35b (by rfl) (by rfl) (by exact Nat.le_of_ble_eq_true rfl)) ?_)))))
          rintro _ _ ⟨rfl, rfl⟩
          refine za rfl (wl_nil (st_tn (w_ret (st_ret (vs := [_, _]) [] Tryz.results78 ⟨⟨_, rfl, Ent.mono (Ent.lab (l := 4) rfl (says_cel 0)) (fun _ h => run_load_agg tA35b h (Nat.le_of_ble_eq_true rfl))⟩, ⟨rfl, trivial⟩⟩ rfl ?_))))
          refine ⟨_, rfl, ?_⟩
          refine ⟨?_, rfl⟩
          unfold mkF; rw [if_neg hc11, hp, hq, if_neg hc31, hc42]; rfl
end Go.Proofs.YtecmigildpkigaaGreat.Ser
namespace Go.Proofs.YtecmigildpkigaaGreat.Ser
open Go Go.SL Go.RowKit
set_option linter.unusedVariables false
set_option linter.unusedSimpArgs false
theorem tA35c : aggB Tryz.prog 35 2 = true := by kernel_rfl
theorem tF35_0c : fieldB Tryz.prog 35 0 0 = true := by kernel_rfl
theorem tF35_1c : fieldB Tryz.prog 35 1 1 = true := by kernel_rfl
theorem tG35c : Tryz.prog.eqGuardType Tryz.prog.depth 35 = false := by kernel_rfl
theorem tMixc : Tryz.prog.follows .mixedOrders = true := by kernel_rfl
theorem tN35c : (Tryz.prog.info? 35).bind (·.zero) = some (Value.agg #[Value.int .i64 0, Value.int .i64 0]) := by kernel_rfl
theorem tO3c : oneB Tryz.prog 3 = true := by kernel_rfl
theorem tS36c : sliceB Tryz.prog 36 3 1 = true := by kernel_rfl
theorem tZ35c : (Tryz.prog.info? 35).map (·.size) = some 2 := by kernel_rfl
abbrev frac (x y : Int) : Value := .agg #[.int .i64 x, .int .i64 y]
def chkF (x y : Int) : Int := if mkF x y = (x, y, 0) then 0 else 3
set_option maxHeartbeats 1000000 in
set_option maxRecDepth 100000 in
theorem fcheck_any {σ : World} {F : List Res} (x y : Int) (hx : -9223372036854775808 ≤ x ∧ x ≤ 9223372036854775807) (hy : -9223372036854775808 ≤ y ∧ y ≤ 9223372036854775807) :
    FnT Tryz.prog σ F 64 [frac x y] [] (fun u ρ => u = .int .i64 (chkF x y) ∧ ρ = []) := by
  refine fn_of 20 Tryz.func64 rfl Tryz.ntmps64 rfl ?_
  refine w_seq (w_region (wl_op [] rfl rfl rfl rfl (op_box (T := 35) (l := 1) rfl) ?_))
  rintro _ _ ⟨b1, rfl, rfl⟩
  refine za rfl (wl_nil (st_tn (w_seq (w_seq (w_region (zd rfl (op_fieldAddr (off := 0) rfl tF35_0c) (zd rfl (op_load1 rfl tO3c (Ent.lab (l := 1) rfl (says_cel 0))) (zd rfl (op_fieldAddr (off := 1) rfl tF35_1c) (zd rfl (op_load1 rfl tO3c (Ent.lab (l := 1) rfl (says_cel 1))) (zd rfl (op_fn Tryz.func78 rfl rfl rfl (mk_any _ _ (by omega) (by omega))) ?_))))))))))
  refine zm rfl (zd rfl (op_extract rfl rfl) (zd rfl (op_extract rfl rfl) (wl_op [] rfl rfl rfl rfl (op_alloc (l := 3) tN35c) ?_)))
  rintro _ _ ⟨b3, rfl, rfl⟩
  refine wl_op0 [3] rfl rfl rfl (op_store rfl rfl tZ35c (by rfl) (by rfl) (by exact Nat.le_of_ble_eq_true rfl)) ?_
  rintro _ _ ⟨rfl, rfl⟩
  refine za rfl (wl_nil (st_tn (w_seq (w_cutL [(19, .bool (decide (mkF x y ≠ (x, y, 0))))] [] [1, 3] rfl (fun K' hK => ?_) ?_))))
  · -- cut r2
    refine w_region (zm rfl (zd rfl (op_neq rfl rfl) (zm rfl (wl_gsplit (t := 15) rfl (fun hg15 => ?_) (fun hg15 => ?_)))))
    · -- 15 is True
      refine wl_unwanted rfl rfl rfl rfl rfl rfl rfl rfl (wl_unwanted rfl rfl rfl rfl rfl rfl rfl rfl (wl_unwanted rfl rfl rfl rfl rfl rfl rfl rfl (zd rfl (op_pick_t rfl rfl) (wl_nil (st_tn ?_)))))
      exact cut_done1 [1, 3] hK rfl (by generalize mkF x y = r at *; obtain ⟨p, q, e⟩ := r; first | (simp_all; done) | (simp_all; omega)) (by rfl) rfl rfl
    · -- 15 is False
      refine wl_wanted_det rfl rfl rfl rfl rfl rfl rfl (op_loadA rfl tA35c (Ent.lab (l := 3) rfl (says_cel 0)) (Nat.le_of_ble_eq_true rfl)) (wl_wanted_det rfl rfl rfl rfl rfl rfl rfl (op_loadA rfl tA35c (Ent.lab (l := 1) rfl (says_cel 0)) (Nat.le_of_ble_eq_true rfl)) (wl_wanted_det rfl rfl rfl rfl rfl rfl rfl (op_neA rfl rfl tG35c (eq24 _ _ _ _)) (zd rfl (op_pick_f rfl rfl) (wl_nil (st_tn ?_)))))
      exact cut_done1 [1, 3] hK rfl (by generalize mkF x y = r at *; obtain ⟨p, q, e⟩ := r; first | (simp_all; done) | (simp_all; omega)) (by rfl) rfl rfl
  · -- behind r2
    show W _ _ _ _ _ [(19, _)] [(1, _), (3, _)] _
    refine w_cond_d rfl (fun hc19 => ?_) (fun hc19 => ?_)
    · -- c19.t
      refine w_seq (w_region (za rfl (wl_nil (st_tn (w_ret (st_tr (st_ret (vs := [_]) [] Tryz.results64 ⟨rfl, trivial⟩ rfl ?_)))))))
      refine ⟨_, rfl, ?_⟩
      refine ⟨?_, rfl⟩; unfold chkF; rw [if_neg hc19]; rfl
    · -- c19.f
      refine w_skip (st_tn (w_seq (w_region (za rfl (wl_nil (st_tn (w_ret (st_ret (vs := [_]) [] Tryz.results64 ⟨rfl, trivial⟩ rfl ?_))))))))
      refine ⟨_, rfl, ?_⟩
      refine ⟨?_, rfl⟩; unfold chkF; rw [if_pos (Classical.byContradiction hc19)]; rfl
def goodB (x y : Int) : Prop := mkF x y = (x, y, 0) ∧ 0 < x ∧ x ≤ y
instance (x y : Int) : Decidable (goodB x y) := by unfold goodB; infer_instance
theorem goodB_bd {x y : Int} (h : goodB x y) : 0 < x ∧ x ≤ y ∧ y ≤ 1048576 := by
  have := mkF_ok h.1; have := h.2; omega
set_option maxHeartbeats 400000 in
set_option maxRecDepth 100000 in
theorem squant_any {σ : World} {F : List Res} (x y : Int) (hx : -9223372036854775808 ≤ x ∧ x ≤ 9223372036854775807) (hy : -9223372036854775808 ≤ y ∧ y ≤ 9223372036854775807) :
    FnT Tryz.prog σ F 45 [frac x y] [] (fun u ρ => u = .bool (decide (goodB x y)) ∧ ρ = []) := by
  refine fn_of 18 Tryz.func45 rfl Tryz.ntmps45 rfl ?_
  refine w_seq (w_region (wl_op [] rfl rfl rfl rfl (op_box (T := 35) (l := 1) rfl) ?_))
  rintro _ _ ⟨b1, rfl, rfl⟩
  refine za rfl (wl_nil (st_tn (w_seq (w_cutL [(2, .bool (decide (goodB x y)))] [] [1] rfl (fun K' hK => ?_) ?_))))
  · -- cut r1
    refine w_region (zd rfl (op_loadA rfl tA35c (Ent.lab (l := 1) rfl (says_cel 0)) (Nat.le_of_ble_eq_true rfl)) (zd rfl (op_fn Tryz.func64 rfl rfl rfl (fcheck_any _ _ (by omega) (by omega))) ?_))
    refine zd rfl (op_eql rfl rfl) (zm rfl (wl_gsplit (t := 6) rfl (fun hg6 => ?_) (fun hg6 => ?_)))
    · -- 6 is True
      refine wl_wanted_det rfl rfl rfl rfl rfl rfl rfl (op_fieldAddr (off := 0) rfl tF35_0c) (wl_wanted_det rfl rfl rfl rfl rfl rfl rfl (op_load1 rfl tO3c (Ent.lab (l := 1) rfl (says_cel 0))) (wl_wanted_det rfl rfl rfl rfl rfl rfl rfl (op_gtr rfl rfl) (zd rfl (op_pick_t rfl rfl) (zm rfl (wl_gsplit (t := 11) rfl (fun hg11 => ?_) (fun hg11 => ?_))))))
      · -- 11 is True
        refine wl_wanted_det rfl rfl rfl rfl rfl rfl rfl (op_fieldAddr (off := 0) rfl tF35_0c) (wl_wanted_det rfl rfl rfl rfl rfl rfl rfl (op_load1 rfl tO3c (Ent.lab (l := 1) rfl (says_cel 0))) (wl_wanted_det rfl rfl rfl rfl rfl rfl rfl (op_fieldAddr (off := 1) rfl tF35_1c) (wl_wanted_det rfl rfl rfl rfl rfl rfl rfl (op_load1 rfl tO3c (Ent.lab (l := 1) rfl (says_cel 1))) (wl_wanted_det rfl rfl rfl rfl rfl rfl rfl (op_leq rfl rfl) (zd rfl (op_pick_t rfl rfl) (za rfl (wl_nil (st_tn ?_))))))))
        exact cut_done1 [1] hK rfl (by unfold goodB; unfold chkF at *; by_cases h1 : mkF x y = (x, y, 0) <;> simp_all <;> omega) (by rfl) rfl rfl
      · -- 11 is False
        refine wl_unwanted rfl rfl rfl rfl rfl rfl rfl rfl (wl_unwanted rfl rfl rfl rfl rfl rfl rfl rfl (wl_unwanted rfl rfl rfl rfl rfl rfl rfl rfl (wl_unwanted rfl rfl rfl rfl rfl rfl rfl rfl (wl_unwanted rfl rfl rfl rfl rfl rfl rfl rfl (zd rfl (op_pick_f rfl rfl) (za rfl (wl_nil (st_tn ?_))))))))
        exact cut_done1 [1] hK rfl (by unfold goodB; unfold chkF at *; by_cases h1 : mkF x y = (x, y, 0) <;> simp_all <;> omega) (by rfl) rfl rfl
    · -- 6 is False
      refine wl_unwanted rfl rfl rfl rfl rfl rfl rfl rfl (wl_unwanted rfl rfl rfl rfl rfl rfl rfl rfl (wl_unwanted rfl rfl rfl rfl rfl rfl rfl rfl (zd rfl (op_pick_f rfl rfl) (zm rfl (wl_unwanted rfl rfl rfl rfl rfl rfl rfl rfl (wl_unwanted rfl rfl rfl rfl rfl rfl rfl rfl (wl_unwanted rfl rfl rfl rfl rfl rfl rfl rfl (wl_unwanted rfl rfl rfl rfl rfl rfl rfl rfl (wl_unwanted rfl rfl rfl rfl rfl rfl rfl rfl (zd rfl (op_pick_f rfl rfl) (za rfl (wl_nil (st_tn ?_)))))))))))))
      exact cut_done1 [1] hK rfl (by unfold goodB; unfold chkF at *; by_cases h1 : mkF x y = (x, y, 0) <;> simp_all <;> omega) (by rfl) rfl rfl
  · -- behind r1
    show W _ _ _ _ _ [(2, _)] [(1, _)] _
    refine w_ret (st_ret (vs := [_]) [] Tryz.results45 ⟨rfl, trivial⟩ rfl ?_)
    refine ⟨_, rfl, ?_⟩
    exact ⟨rfl, rfl⟩
def rankOf (n : Nat) (x y : Int) : Int := (x * n + y - 1) / y
theorem rankOf_bd {n : Nat} {x y : Int} (hn : 0 < n) (h : goodB x y) : 1 ≤ rankOf n x y ∧ rankOf n x y ≤ n := by
  have hb := goodB_bd h
  unfold rankOf
  have h1 : x * 1 ≤ x * n := Int.mul_le_mul_of_nonneg_left (by omega) (by omega)
  have h2 : x * n ≤ y * n := Int.mul_le_mul_of_nonneg_right (by omega) (by omega)
  constructor
  · have := Int.ediv_le_ediv (a := y) (c := y) (b := x * n + y - 1) (by omega) (by omega)
    rwa [Int.ediv_self (by omega)] at this
  · have := Int.ediv_le_ediv (a := x * n + y - 1) (b := y * n + (y - 1)) (c := y) (by omega) (by omega)
    rw [Int.mul_add_ediv_left _ _ (by omega : y ≠ 0), Int.ediv_eq_zero_of_lt (a := y - 1) (b := y) (by omega) (by omega)] at this
    omega
def quantZ (l : List Int) (x y : Int) : Int := if l = [] then 0 else (srt l).getD (rankOf l.length x y - 1).toNat 0
set_option maxHeartbeats 1000000 in
set_option maxRecDepth 100000 in
theorem rank_any {σ : World} {F : List Res} {a : Option Addr} {c : Nat} {l : List Int} (x y : Int) (h : Sl σ F encZ 1 (.slice a l.length c) l) (hl : l.length ≤ 1099511627776) (hg : goodB x y) :
    FnT Tryz.prog σ F 24 [.slice a l.length c, frac x y] [] (fun u ρ => u = .int .i64 (quantZ l x y) ∧ ρ = []) := by
  refine fn_of 26 Tryz.func24 rfl Tryz.ntmps24 rfl ?_
  have hb := goodB_bd hg
  have hm1 : x * l.length ≤ 1048576 * 1099511627776 := Int.mul_le_mul (by omega) (by omega) (by omega) (by omega)
  have hm0 : 0 ≤ x * l.length := Int.mul_nonneg (by omega) (by omega)
  refine w_seq (w_region (wl_op [] rfl rfl rfl rfl (op_box (T := 35) (l := 3) rfl) ?_))
  rintro _ _ ⟨b3, rfl, rfl⟩
  refine za rfl (wl_nil (st_tn (w_seq (w_seq (w_region (zm rfl (zd rfl (op_lenT rfl tS36c (Sl.ent (by first | exact Sl.app (by assumption) _ | exact Sl.app (Sl.app (by assumption) _) _))) ?_)))))))
  refine zd rfl (op_eql rfl rfl) (wl_nil (st_tn (w_cond_d rfl (fun hc7 => ?_) (fun hc7 => ?_))))
  · -- c7.t
    refine w_seq (w_region (za rfl (wl_nil (st_tn (w_ret (st_tr (st_ret (vs := [_]) [] Tryz.results24 ⟨rfl, trivial⟩ rfl ?_)))))))
    refine ⟨_, rfl, ?_⟩
    refine ⟨?_, rfl⟩; unfold quantZ; rw [if_pos (List.eq_nil_of_length_eq_zero (by omega))]; rfl
  · -- c7.f
    have hr := rankOf_bd (n := l.length) (by omega) hg
    have hrk : (x * (l.length : Int) + y - 1) / y = rankOf l.length x y := rfl
    have hls := length_srt l
    obtain ⟨z, hz⟩ := getE (l := srt l) (i := (rankOf l.length x y - 1).toNat) (by omega)
    have hz0 := hz
    refine w_skip (st_tn (w_seq ?_))
    refine w_draw (D := [⟨8, [], [], [], _, false, [], []⟩, ⟨9, [0], [], [], _, false, [], []⟩, ⟨10, [1], [], [], _, false, [], []⟩, ⟨11, [], [], [], _, false, [], []⟩, ⟨12, [3], [], [], _, false, [], []⟩, ⟨13, [], [], [], _, false, [], []⟩, ⟨14, [5], [], [], _, false, [], []⟩, ⟨15, [4, 6], [], [], _, false, [], []⟩, ⟨16, [], [], [], _, false, [], []⟩, ⟨17, [8], [], [], _, false, [], []⟩, ⟨18, [7, 9], [], [], _, false, [], []⟩, ⟨19, [10], [], [], _, false, [], []⟩, ⟨20, [], [], [], _, false, [], []⟩, ⟨21, [12], [], [], _, false, [], []⟩, ⟨22, [11, 13], [], [], _, false, [], []⟩, ⟨23, [14], [], [], _, false, [], []⟩]) [] [0, 3] [⟨8, [], [], false, [], []⟩, ⟨9, [0], [], false, [], []⟩, ⟨10, [1], [], false, [], []⟩, ⟨11, [], [], false, [], []⟩, ⟨12, [3], [], false, [], []⟩, ⟨13, [], [], false, [], []⟩, ⟨14, [5], [], false, [], []⟩, ⟨15, [4, 6], [], false, [], []⟩, ⟨16, [], [], false, [], []⟩, ⟨17, [8], [], false, [], []⟩, ⟨18, [7, 9], [], false, [], []⟩, ⟨19, [10], [], false, [], []⟩, ⟨20, [], [], false, [], []⟩, ⟨21, [12], [], false, [], []⟩, ⟨22, [11, 13], [], false, [], []⟩, ⟨23, [14], [], false, [], []⟩] tMixc (by rfl) (by kernel_rfl) (by rfl) (by rfl)
        ⟨.plain rfl (by intro X; exact op_move rfl),
        ⟨.plain rfl (by intro X; rintro _ _ ⟨rfl, rfl⟩; exact op_fn Tryz.func49 rfl rfl rfl (values_any (v := .slice a l.length c) 9)),
        ⟨.plain rfl (by intro X; rintro _ _ ⟨b9, rfl, rfl⟩; exact op_fn Tryz.func48 rfl rfl rfl (sorted_any 10 (Ent.lab (l := 9) rfl (says_cel 0)) (by first | exact Sl.app h _ | exact Sl.app (Sl.app h _) _) hl)),
        ⟨.plain rfl (by intro X; exact op_fieldAddr (off := 0) rfl tF35_0c),
        ⟨.plain rfl (by intro X; rintro _ _ ⟨rfl, rfl⟩; exact op_load1 rfl tO3c (Ent.lab (l := 3) rfl (says_cel 0))),
        ⟨.plain rfl (by intro X; exact op_move rfl),
        ⟨.plain rfl (by intro X; rintro _ _ ⟨rfl, rfl⟩; exact op_lenT rfl tS36c (Sl.ent (by first | exact Sl.app (by assumption) _ | exact Sl.app (Sl.app (by assumption) _) _))),
        ⟨.plain rfl (by intro X; rintro _ _ ⟨rfl, rfl⟩ _ _ ⟨rfl, rfl⟩; exact op_mul' rfl rfl (by omega)),
        ⟨.plain rfl (by intro X; exact op_fieldAddr (off := 1) rfl tF35_1c),
        ⟨.plain rfl (by intro X; rintro _ _ ⟨rfl, rfl⟩; exact op_load1 rfl tO3c (Ent.lab (l := 3) rfl (says_cel 1))),
        ⟨.plain rfl (by intro X; rintro _ _ ⟨rfl, rfl⟩ _ _ ⟨rfl, rfl⟩; exact op_add' rfl rfl (by omega)),
        ⟨.plain rfl (by intro X; rintro _ _ ⟨rfl, rfl⟩; exact op_sub' rfl rfl (by omega)),
        ⟨.plain rfl (by intro X; exact op_fieldAddr (off := 1) rfl tF35_1c),
        ⟨.plain rfl (by intro X; rintro _ _ ⟨rfl, rfl⟩; exact op_load1 rfl tO3c (Ent.lab (l := 3) rfl (says_cel 1))),
        ⟨.plain rfl (by intro X; rintro _ _ ⟨rfl, rfl⟩ _ _ ⟨rfl, rfl⟩; exact op_quoN rfl rfl (by omega) (by omega) (by omega)),
        ⟨.plain rfl (by intro X; rintro _ _ ⟨rfl, rfl⟩; exact op_sub' rfl rfl (by omega)),
        trivial⟩⟩⟩⟩⟩⟩⟩⟩⟩⟩⟩⟩⟩⟩⟩⟩ ?_
    rintro _ _ ⟨rfl, rfl⟩ _ _ ⟨b9, rfl, rfl⟩ _ _ ⟨a10, c10, rfl, rfl⟩ _ _ ⟨rfl, rfl⟩ _ _ ⟨rfl, rfl⟩ _ _ ⟨rfl, rfl⟩ _ _ ⟨rfl, rfl⟩ _ _ ⟨rfl, rfl⟩ _ _ ⟨rfl, rfl⟩ _ _ ⟨rfl, rfl⟩ _ _ ⟨rfl, rfl⟩ _ _ ⟨rfl, rfl⟩ _ _ ⟨rfl, rfl⟩ _ _ ⟨rfl, rfl⟩ _ _ ⟨rfl, rfl⟩ _ _ ⟨rfl, rfl⟩
    refine wl_norm (e' := [(10, _), (23, _)]) (.cons rfl (.cons rfl (.nil _))) (by dsimp only [cond_false, cond_true, List.nil_append, List.cons_append]) ?_
    refine zd rfl (op_idxZ rfl rfl tS36c (Sl.ent (Sl.lab 10 rfl (by unfold maxLen; omega))) (by omega) (by omega)) ?_
    refine zd rfl (op_ldx rfl tO3c (Sl.lab 10 rfl (by unfold maxLen; omega)) (by assumption) (by rfl)) ?_
    refine za rfl (wl_nil (st_tn (w_ret (st_ret (vs := [_]) [] Tryz.results24 ⟨rfl, trivial⟩ rfl ?_))))
    refine ⟨_, rfl, ?_⟩
    refine ⟨?_, rfl⟩; unfold quantZ
    rw [if_neg (fun e => by subst e; simp at hc7), List.getD_eq_getElem?_getD]
    rw [hz0]; rfl
end Go.Proofs.YtecmigildpkigaaGreat.Ser
namespace Go.Proofs.YtecmigildpkigaaGreat.Ser
open Go Go.SL Go.RowKit
set_option linter.unusedVariables false
set_option linter.unusedSimpArgs false
theorem tA38d : aggB Tryz.prog 38 7 = true := by kernel_rfl
theorem tF38_4d : fieldB Tryz.prog 38 4 5 = true := by kernel_rfl
theorem tF38_5d : fieldB Tryz.prog 38 5 6 = true := by kernel_rfl
theorem tN38d : (Tryz.prog.info? 38).bind (·.zero) = some (Value.agg #[Value.string .empty, Value.string .empty, Value.int .i64 0, Value.int .i64 0, Value.int .i64 0, Value.int .i64 0, Value.slice none 0 0]) := by kernel_rfl
theorem tZ3d : (Tryz.prog.info? 3).map (·.size) = some 1 := by kernel_rfl
theorem tZ36d : (Tryz.prog.info? 36).map (·.size) = some 1 := by kernel_rfl
theorem tZ38d : (Tryz.prog.info? 38).map (·.size) = some 7 := by kernel_rfl
structure SK where
  svc : ByteArray
  op : ByteArray
  met : Int
  qn : Int
  qd : Int
def K0 : SK := ⟨.empty, .empty, 0, 0, 0⟩
abbrev sr (k : SK) (fr : Int) (v : Value) : Value := .agg #[.string k.svc, .string k.op, .int .i64 k.met, .int .i64 k.qn, .int .i64 k.qd, .int .i64 fr, v]
structure R where
  k : SK
  fr : Int
  vals : List Int
  e : Int
def zeroR (e : Int) : R := ⟨K0, 0, [], e⟩
def SerV (r : R) (lab : Nat) (u : Value) (ρ : RL) : Prop := ∃ a c, u = .tuple #[sr r.k r.fr (.slice a r.vals.length c), .int .i64 r.e] ∧ ρ = [(lab, slW 3 encZ 1 (.slice a r.vals.length c) r.vals)]
set_option maxHeartbeats 400000 in
set_option maxRecDepth 100000 in
theorem like_any {σ : World} {F : List Res} (k : SK) (fr fr' : Int) (a a' : Option Addr) (m c m' c' : Nat) :
    FnT Tryz.prog σ F 18 [sr k fr (.slice a m c), .int .i64 fr', .slice a' m' c'] [] (fun u ρ => u = sr k fr' (.slice a' m' c') ∧ ρ = []) := by
  refine fn_of 12 Tryz.func18 rfl Tryz.ntmps18 rfl ?_
  refine w_seq (w_region (wl_op [] rfl rfl rfl rfl (op_box (T := 38) (l := 3) rfl) ?_))
  rintro _ _ ⟨b3, rfl, rfl⟩
  refine wl_op [] rfl rfl rfl rfl (op_alloc (l := 6) tN38d) ?_
  rintro _ _ ⟨b6, rfl, rfl⟩
  refine wl_nil (st_tn (w_seq (w_region (zm rfl (zm rfl (zd rfl (op_fieldAddr (off := 5) rfl tF38_4d) (wl_op0 [3] rfl rfl rfl (op_store rfl rfl tZ3d (by rfl) (by rfl) (by exact Nat.le_of_ble_eq_true rfl)) ?_)))))))
  rintro _ _ ⟨rfl, rfl⟩
  refine zd rfl (op_fieldAddr (off := 6) rfl tF38_5d) (wl_op0 [3] rfl rfl rfl (op_store rfl rfl tZ36d (by rfl) (by rfl) (by exact Nat.le_of_ble_eq_true rfl)) ?_)
  rintro _ _ ⟨rfl, rfl⟩
  refine wl_nil (st_tn (w_seq (w_region (zd rfl (op_loadA rfl tA38d (Ent.lab (l := 3) rfl (says_cel 0)) (Nat.le_of_ble_eq_true rfl)) (wl_op0 [6] rfl rfl rfl (op_store rfl rfl tZ38d (by rfl) (by rfl) (by exact Nat.le_of_ble_eq_true rfl)) ?_)))))
  rintro _ _ ⟨rfl, rfl⟩
  refine wl_nil (st_tn (w_ret (st_ret (vs := [_]) [] Tryz.results18 ⟨⟨_, rfl, Ent.mono (Ent.lab (l := 6) rfl (says_cel 0)) (fun _ h => run_load_agg tA38d h (Nat.le_of_ble_eq_true rfl))⟩, trivial⟩ rfl ?_)))
  refine ⟨_, rfl, ?_⟩
  exact ⟨rfl, rfl⟩
end Go.Proofs.YtecmigildpkigaaGreat.Ser
namespace Go.Proofs.YtecmigildpkigaaGreat.Ser
open Go Go.SL Go.RowKit
set_option linter.unusedVariables false
set_option linter.unusedSimpArgs false
def svcL : List ByteArray := [⟨#[97, 112, 105]⟩, ⟨#[100, 98]⟩, ⟨#[119, 101, 98]⟩, ⟨#[99, 97, 99, 104, 101]⟩]
theorem svc_get (x : Int) : svcL[(x % 4).toNat]? = some (svcL.getD (x % 4).toNat .empty) := by
  rw [List.getD_eq_getElem?_getD, List.getElem?_eq_getElem (by simp [svcL]; omega)]; rfl
end Go.Proofs.YtecmigildpkigaaGreat.Ser
namespace Go.Proofs.YtecmigildpkigaaGreat.Ser
open Go Go.SL Go.RowKit
set_option linter.unusedVariables false
set_option linter.unusedSimpArgs false
theorem tA35h : aggB Tryz.prog 35 2 = true := by kernel_rfl
theorem tA38h : aggB Tryz.prog 38 7 = true := by kernel_rfl
theorem tB35h : placesB Tryz.prog 35 = some ([(0, 1), (1, 1)], [Value.int .i64 0, Value.int .i64 0]) := by kernel_rfl
theorem tB38h : placesB Tryz.prog 38 = some ([(0, 1), (1, 1), (2, 1), (3, 2), (5, 1), (6, 1)], [Value.string .empty, Value.string .empty, Value.int .i64 0, Value.int .i64 0, Value.int .i64 0, Value.int .i64 0, Value.slice none 0 0]) := by kernel_rfl
theorem tF38_0h : fieldB Tryz.prog 38 0 0 = true := by kernel_rfl
theorem tF38_1h : fieldB Tryz.prog 38 1 1 = true := by kernel_rfl
theorem tF38_2h : fieldB Tryz.prog 38 2 2 = true := by kernel_rfl
theorem tF38_3h : fieldB Tryz.prog 38 3 3 = true := by kernel_rfl
theorem tF38_4h : fieldB Tryz.prog 38 4 5 = true := by kernel_rfl
theorem tF38_5h : fieldB Tryz.prog 38 5 6 = true := by kernel_rfl
theorem tG35h : Tryz.prog.eqGuardType Tryz.prog.depth 35 = false := by kernel_rfl
theorem tMixh : Tryz.prog.follows .mixedOrders = true := by kernel_rfl
theorem tN38h : (Tryz.prog.info? 38).bind (·.zero) = some (Value.agg #[Value.string .empty, Value.string .empty, Value.int .i64 0, Value.int .i64 0, Value.int .i64 0, Value.int .i64 0, Value.slice none 0 0]) := by kernel_rfl
theorem tO3h : oneB Tryz.prog 3 = true := by kernel_rfl
theorem tO36h : oneB Tryz.prog 36 = true := by kernel_rfl
theorem tO9h : oneB Tryz.prog 9 = true := by kernel_rfl
theorem tS36h : sliceB Tryz.prog 36 3 1 = true := by kernel_rfl
theorem tZ38h : (Tryz.prog.info? 38).map (·.size) = some 7 := by kernel_rfl
theorem ba_get (s : ByteArray) (i : Nat) : s[i]? = s.data.toList[i]? := by
  by_cases h : i < s.size
  · rw [getElem?_pos s i h, List.getElem?_eq_getElem (by rw [Array.length_toList]; exact h)]; rfl
  · rw [getElem?_neg s i h, List.getElem?_eq_none (by rw [Array.length_toList]; exact Nat.le_of_not_lt h)]
def within (lo hi : Int) (s : ByteArray) : Prop := ∀ b ∈ s.data.toList, lo ≤ (b.toNat : Int) ∧ (b.toNat : Int) ≤ hi
instance (lo hi : Int) (s : ByteArray) : Decidable (within lo hi s) := by unfold within; infer_instance
set_option maxHeartbeats 400000 in
set_option maxRecDepth 100000 in
theorem within_any {σ : World} {F : List Res} (s : ByteArray) (lo hi : Int) (hs : s.size ≤ maxLen) (h0 : 0 ≤ lo ∧ lo ≤ 255) (h1 : 0 ≤ hi ∧ hi ≤ 255) : FnT Tryz.prog σ F 63 [.string s, .int .u8 lo, .int .u8 hi] [] (fun u ρ => u = .bool (decide (within lo hi s)) ∧ ρ = []) := by
  refine fn_of 26 Tryz.func63 rfl Tryz.ntmps63 rfl ?_
  have hls : s.data.toList.length = s.size := by rw [Array.length_toList]; rfl
  unfold maxLen at hs
  refine w_seq (w_region (za rfl (wl_nil (st_tn (w_seq (w_seq (w_region (zm rfl (zd rfl (op_lenS rfl Tryz.underlying9) (zm rfl (wl_nil (st_tn (w_block ?_)))))))))))))
  refine w_loopQ (X := Nat) (fun z => z ≤ s.size ∧ ∀ b ∈ s.data.toList.take z, lo ≤ (b.toNat : Int) ∧ (b.toNat : Int) ≤ hi) (fun z => [(10, .int .i64 (z))]) (fun _ => []) (fun z => s.size - z) (0) [(0, _), (1, _), (2, _), (9, _)] [] [] rfl (rfl) (.cons rfl (.nil _)) (.cons rfl (.cons rfl (.cons rfl (.cons rfl (.nil _))))) (by
      try dsimp only
      exact ⟨Nat.zero_le _, by simp⟩) ?_
  rintro i ⟨hi0, hn⟩
  refine w_norm2 (by dsimp only [List.cons_append, List.nil_append]) (by dsimp only [List.cons_append, List.nil_append]) ?_
  try dsimp only at hi0 hn ⊢
  refine w_seq (w_region (zd rfl (op_lss rfl rfl) (wl_nil (st_tn (w_seq (w_cond_d rfl (fun hc11 => ?_) (fun hc11 => ?_)))))))
  · -- c11.t
    obtain ⟨b, hb⟩ : ∃ b, s[i]? = some b := ⟨s[i], getElem?_pos s i (by omega)⟩
    have hb' : s.data.toList[i]? = some b := by rw [← ba_get]; exact hb
    refine w_skip (st_tn (w_seq (w_block (w_seq (w_region (zm rfl (za rfl (wl_nil (st_tn (w_seq (w_cutL [(24, .bool (decide ((b.toNat : Int) < lo ∨ (b.toNat : Int) > hi)))] [0, 1, 2, 9, 10] [] rfl (fun K' hK => ?_) ?_)))))))))))
    · -- cut r4
      refine w_region (zm rfl (zm rfl (zd rfl (op_idxS rfl rfl Tryz.underlying9 (by assumption)) ?_)))
      refine zm rfl (zd rfl (op_lss rfl rfl) (zm rfl (wl_gsplit (t := 18) rfl (fun hg18 => ?_) (fun hg18 => ?_))))
      · -- 18 is True
        refine wl_unwanted rfl rfl rfl rfl rfl rfl rfl rfl (wl_unwanted rfl rfl rfl rfl rfl rfl rfl rfl (wl_unwanted rfl rfl rfl rfl rfl rfl rfl rfl (wl_unwanted rfl rfl rfl rfl rfl rfl rfl rfl (wl_unwanted rfl rfl rfl rfl rfl rfl rfl rfl (zd rfl (op_pick_t rfl rfl) (wl_nil (st_tn ?_)))))))
        exact cut_done1 [] hK rfl (by first | (rw [decide_eq_decide]; omega) | (symm; rw [decide_eq_false_iff_not]; omega) | (symm; rw [decide_eq_true_iff]; omega) | (simp; done) | (simp; omega) | (simp [*]; done) | (simp [*]; omega)) (by rfl) rfl rfl
      · -- 18 is False
        refine wl_wanted_det rfl rfl rfl rfl rfl rfl rfl (op_move rfl) (wl_wanted_det rfl rfl rfl rfl rfl rfl rfl (op_move rfl) (wl_wanted_det rfl rfl rfl rfl rfl rfl rfl (op_idxS rfl rfl Tryz.underlying9 (by assumption)) ?_))
        refine wl_wanted_det rfl rfl rfl rfl rfl rfl rfl (op_move rfl) (wl_wanted_det rfl rfl rfl rfl rfl rfl rfl (op_gtr rfl rfl) (zd rfl (op_pick_f rfl rfl) (wl_nil (st_tn ?_))))
        exact cut_done1 [] hK rfl (by first | (rw [decide_eq_decide]; omega) | (symm; rw [decide_eq_false_iff_not]; omega) | (symm; rw [decide_eq_true_iff]; omega) | (simp; done) | (simp; omega) | (simp [*]; done) | (simp [*]; omega)) (by rfl) rfl rfl
    · -- behind r4
      show W _ _ _ _ _ [(24, _), (0, _), (1, _), (2, _), (9, _), (10, _)] [] _
      refine w_cond_d rfl (fun hc24 => ?_) (fun hc24 => ?_)
      · -- c24.t
        refine w_seq (w_region (za rfl (wl_nil (st_tn (w_ret (st_br (st_tr (st_tr (st_br (st_tr (st_ret (vs := [_]) [] Tryz.results63 ⟨rfl, trivial⟩ rfl ?_)))))))))))
        refine ⟨_, rfl, ?_⟩
        refine ⟨?_, rfl⟩; have : ¬ within lo hi s := fun h => by have := h b (List.mem_of_getElem? hb'); omega
        simp [retv, this]
      · -- c24.f
        refine w_skip (st_bn (st_tn (w_region (zd rfl (op_add' rfl rfl (by omega)) ?_))))
        refine zm rfl (wl_nil ?_)
        refine st_roundQ (x := i) (i + 1) [] rfl (rfl) (.cons rfl (.nil _)) (.cons rfl (.cons rfl (.cons rfl (.cons rfl (.nil _))))) (by
            try dsimp only
            refine ⟨by omega, by rw [take_snoc hb']; intro q hq; rcases List.mem_append.1 hq with hq | hq; (· exact hn q hq); (· simp only [List.mem_singleton] at hq; subst hq; omega)⟩) (by
            try dsimp only
            omega)
  · -- c11.f
    refine w_exit (st_te ?_)
    refine st_te ?_
    refine st_be (st_tn (w_seq (w_region (za rfl (wl_nil (st_tn (w_ret (st_ret (vs := [_]) [] Tryz.results63 ⟨rfl, trivial⟩ rfl ?_))))))))
    refine ⟨_, rfl, ?_⟩
    refine ⟨?_, rfl⟩; rw [take_all (by omega)] at hn; have : within lo hi s := hn
    simp [retv, this]
def nameP (s : ByteArray) : Prop := (s ≠ ⟨#[]⟩ ∧ (s.size : Int) ≤ 64) ∧ within 33 126 s
instance (s : ByteArray) : Decidable (nameP s) := by unfold nameP; infer_instance
set_option maxHeartbeats 400000 in
set_option maxRecDepth 100000 in
theorem isName_any {σ : World} {F : List Res} (s : ByteArray) (hs : s.size ≤ maxLen) : FnT Tryz.prog σ F 44 [.string s] [] (fun u ρ => u = .bool (decide (nameP s)) ∧ ρ = []) := by
  refine fn_of 14 Tryz.func44 rfl Tryz.ntmps44 rfl ?_
  refine w_seq (w_region (za rfl (wl_nil (st_tn (w_seq (w_region (zm rfl (zd rfl (op_neStr rfl rfl) (zm rfl (wl_gsplit (t := 5) rfl (fun hg5 => ?_) (fun hg5 => ?_)))))))))))
  · -- 5 is True
    refine wl_wanted_det rfl rfl rfl rfl rfl rfl rfl (op_move rfl) (wl_wanted_det rfl rfl rfl rfl rfl rfl rfl (op_lenS rfl Tryz.underlying9) (wl_wanted_det rfl rfl rfl rfl rfl rfl rfl (op_leq rfl rfl) (zd rfl (op_pick_t rfl rfl) (zm rfl (wl_gsplit (t := 10) rfl (fun hg10 => ?_) (fun hg10 => ?_))))))
    · -- 10 is True
      refine wl_wanted_det rfl rfl rfl rfl rfl rfl rfl (op_move rfl) (wl_wanted_det rfl rfl rfl rfl rfl rfl rfl (op_fn Tryz.func63 rfl rfl rfl (within_any _ _ _ (by assumption) (by omega) (by omega))) ?_)
      refine zd rfl (op_pick_t rfl rfl) (za rfl (wl_nil (st_tn (w_ret (st_ret (vs := [_]) [] Tryz.results44 ⟨rfl, trivial⟩ rfl ?_)))))
      refine ⟨_, rfl, ?_⟩
      refine ⟨?_, rfl⟩
      unfold nameP
      first | (simp [retv, *]; done) | (simp [retv, *]; omega) | (simp_all [retv]; done)
    · -- 10 is False
      refine wl_unwanted rfl rfl rfl rfl rfl rfl rfl rfl (wl_unwanted rfl rfl rfl rfl rfl rfl rfl rfl (zd rfl (op_pick_f rfl rfl) (za rfl (wl_nil (st_tn (w_ret (st_ret (vs := [_]) [] Tryz.results44 ⟨rfl, trivial⟩ rfl ?_)))))))
      refine ⟨_, rfl, ?_⟩
      refine ⟨?_, rfl⟩
      unfold nameP
      first | (simp [retv, *]; done) | (simp [retv, *]; omega) | (simp_all [retv]; done)
  · -- 5 is False
    refine wl_unwanted rfl rfl rfl rfl rfl rfl rfl rfl (wl_unwanted rfl rfl rfl rfl rfl rfl rfl rfl (wl_unwanted rfl rfl rfl rfl rfl rfl rfl rfl (zd rfl (op_pick_f rfl rfl) (zm rfl (wl_unwanted rfl rfl rfl rfl rfl rfl rfl rfl (wl_unwanted rfl rfl rfl rfl rfl rfl rfl rfl (zd rfl (op_pick_f rfl rfl) (za rfl (wl_nil (st_tn (w_ret (st_ret (vs := [_]) [] Tryz.results44 ⟨rfl, trivial⟩ rfl ?_))))))))))))
    refine ⟨_, rfl, ?_⟩
    refine ⟨?_, rfl⟩
    unfold nameP
    first | (simp [retv, *]; done) | (simp [retv, *]; omega) | (simp_all [retv]; done)
set_option maxHeartbeats 400000 in
set_option maxRecDepth 100000 in
theorem badv_any {σ : World} {F : List Res} (x : Int) : FnT Tryz.prog σ F 47 [.int .i64 x] [] (fun u ρ => u = .bool (decide (x < 0 ∨ x > 1099511627776)) ∧ ρ = []) := by
  refine fn_of 9 Tryz.func47 rfl Tryz.ntmps47 rfl ?_
  refine w_seq (w_region (za rfl (wl_nil (st_tn (w_seq (w_region (zm rfl (zd rfl (op_lss rfl rfl) (zm rfl (wl_gsplit (t := 5) rfl (fun hg5 => ?_) (fun hg5 => ?_)))))))))))
  · -- 5 is True
    refine wl_unwanted rfl rfl rfl rfl rfl rfl rfl rfl (wl_unwanted rfl rfl rfl rfl rfl rfl rfl rfl (zd rfl (op_pick_t rfl rfl) (za rfl (wl_nil (st_tn (w_ret (st_ret (vs := [_]) [] Tryz.results47 ⟨rfl, trivial⟩ rfl ?_)))))))
    refine ⟨_, rfl, ?_⟩
    refine ⟨?_, rfl⟩
    first | (simp [retv, *]; done) | (simp [retv, *]; omega)
  · -- 5 is False
    refine wl_wanted_det rfl rfl rfl rfl rfl rfl rfl (op_move rfl) (wl_wanted_det rfl rfl rfl rfl rfl rfl rfl (op_gtr rfl rfl) (zd rfl (op_pick_f rfl rfl) (za rfl (wl_nil (st_tn (w_ret (st_ret (vs := [_]) [] Tryz.results47 ⟨rfl, trivial⟩ rfl ?_)))))))
    refine ⟨_, rfl, ?_⟩
    refine ⟨?_, rfl⟩
    first | (simp [retv, *]; done) | (simp [retv, *]; omega)
def chkE (k : SK) (fr : Int) (l : List Int) : Int :=
  if ¬ nameP k.svc ∨ (k.op ≠ ⟨#[]⟩ ∧ ¬ nameP k.op) then 11
  else if k.met < 1 ∨ k.met > 3 then 12
  else if (k.met = 3 ∧ ¬ goodB k.qn k.qd) ∨ (k.met ≠ 3 ∧ ¬ (k.qn, k.qd) = (0, 0)) then 3
  else if fr < 0 ∨ fr > 1048576 then 32
  else if l.length > 1024 then 6
  else if fr + l.length > 1048577 then 32
  else if l.any (fun x => decide (x < 0 ∨ x > 1099511627776)) then 2 else 0
set_option maxHeartbeats 1000000 in
set_option maxRecDepth 100000 in
theorem check_any {σ : World} {F : List Res} {a : Option Addr} {c : Nat} {l : List Int} (k : SK) (fr : Int) (h : Sl σ F encZ 1 (.slice a l.length c) l) (hs : k.svc.size ≤ maxLen) (ho : k.op.size ≤ maxLen) (hx : -9223372036854775808 ≤ k.qn ∧ k.qn ≤ 9223372036854775807) (hy : -9223372036854775808 ≤ k.qd ∧ k.qd ≤ 9223372036854775807) :
    FnT Tryz.prog σ F 17 [sr k fr (.slice a l.length c)] [] (fun u ρ => u = .int .i64 (chkE k fr l) ∧ ρ = []) := by
  refine fn_of 75 Tryz.func17 rfl Tryz.ntmps17 rfl ?_
  have hle := h.i64
  refine w_seq (w_region (wl_op [] rfl rfl rfl rfl (op_box (T := 38) (l := 1) rfl) ?_))
  rintro _ _ ⟨b1, rfl, rfl⟩
  refine za rfl (wl_nil (st_tn (w_seq (w_block (w_seq (w_cutL [(3, .bool (decide (¬ nameP k.svc ∨ (k.op ≠ ⟨#[]⟩ ∧ ¬ nameP k.op))))] [1] [1] rfl (fun K' hK => ?_) ?_))))))
  · -- cut r1
    refine w_region (zd rfl (op_fieldAddr (off := 0) rfl tF38_0h) (zd rfl (op_load1 rfl tO9h (Ent.lab (l := 1) rfl (says_cel 0))) (zd rfl (op_fn Tryz.func44 rfl rfl rfl (isName_any _ (by assumption))) ?_)))
    refine zd rfl (op_not_d rfl) (zm rfl (wl_gsplit (t := 8) rfl (fun hg8 => ?_) (fun hg8 => ?_)))
    · -- 8 is True
      refine wl_unwanted rfl rfl rfl rfl rfl rfl rfl rfl (wl_unwanted rfl rfl rfl rfl rfl rfl rfl rfl (wl_unwanted rfl rfl rfl rfl rfl rfl rfl rfl (wl_unwanted rfl rfl rfl rfl rfl rfl rfl rfl (wl_unwantedU rfl rfl rfl rfl rfl rfl rfl ?_))))
      refine wl_unwantedU rfl rfl rfl rfl rfl rfl rfl ?_
      refine wl_unwantedU rfl rfl rfl rfl rfl rfl rfl ?_
      refine wl_unwantedU rfl rfl rfl rfl rfl rfl rfl ?_
      refine wl_unwanted rfl rfl rfl rfl rfl rfl rfl rfl (zd rfl (op_pick_t rfl rfl) (za rfl (wl_nil (st_tn ?_))))
      exact cut_done1 [1] hK rfl (by first | (rw [decide_eq_decide]; omega) | (symm; rw [decide_eq_false_iff_not]; omega) | (symm; rw [decide_eq_true_iff]; omega) | (simp; done) | (simp; omega) | (simp [*]; done) | (simp [*]; omega)) (by rfl) rfl rfl
    · -- 8 is False
      refine wl_wanted_det rfl rfl rfl rfl rfl rfl rfl (op_fieldAddr (off := 1) rfl tF38_1h) (wl_wanted_det rfl rfl rfl rfl rfl rfl rfl (op_load1 rfl tO9h (Ent.lab (l := 1) rfl (says_cel 1))) (wl_wanted_det rfl rfl rfl rfl rfl rfl rfl (op_neStr rfl rfl) (wl_wanted_det rfl rfl rfl rfl rfl rfl rfl (op_move rfl) (wl_gsplit (t := 12) rfl (fun hg12 => ?_) (fun hg12 => ?_)))))
      · -- 12 is True
        refine wl_wanted_det rfl rfl rfl rfl rfl rfl rfl (op_fieldAddr (off := 1) rfl tF38_1h) (wl_wanted_det rfl rfl rfl rfl rfl rfl rfl (op_load1 rfl tO9h (Ent.lab (l := 1) rfl (says_cel 1))) (wl_wanted_det rfl rfl rfl rfl rfl rfl rfl (op_fn Tryz.func44 rfl rfl rfl (isName_any _ (by assumption))) ?_))
        refine wl_wanted_det rfl rfl rfl rfl rfl rfl rfl (op_not_d rfl) (wl_wanted_det rfl rfl rfl rfl rfl rfl rfl (op_pick_t rfl rfl) (zd rfl (op_pick_f rfl rfl) (za rfl (wl_nil (st_tn ?_)))))
        exact cut_done1 [1] hK rfl (by first | (rw [decide_eq_decide]; omega) | (symm; rw [decide_eq_false_iff_not]; omega) | (symm; rw [decide_eq_true_iff]; omega) | (simp; done) | (simp; omega) | (simp [*]; done) | (simp [*]; omega)) (by rfl) rfl rfl
      · -- 12 is False
        refine wl_unwanted rfl rfl rfl rfl rfl rfl rfl rfl (wl_unwanted rfl rfl rfl rfl rfl rfl rfl rfl (wl_unwanted rfl rfl rfl rfl rfl rfl rfl rfl (wl_unwanted rfl rfl rfl rfl rfl rfl rfl rfl (wl_wanted_det rfl rfl rfl rfl rfl rfl rfl (op_pick_f rfl rfl) (zd rfl (op_pick_f rfl rfl) (za rfl (wl_nil (st_tn ?_))))))))
        exact cut_done1 [1] hK rfl (by first | (rw [decide_eq_decide]; omega) | (symm; rw [decide_eq_false_iff_not]; omega) | (symm; rw [decide_eq_true_iff]; omega) | (simp; done) | (simp; omega) | (simp [*]; done) | (simp [*]; omega)) (by rfl) rfl rfl
  · -- behind r1
    show W _ _ _ _ _ [(3, _), (1, _)] [(1, _)] _
    refine w_cond_d rfl (fun hc3 => ?_) (fun hc3 => ?_)
    · -- c3.t
      refine w_seq (w_region (za rfl (wl_nil (st_tn (w_ret (st_br (st_tr (st_ret (vs := [_]) [] Tryz.results17 ⟨rfl, trivial⟩ rfl ?_))))))))
      refine ⟨_, rfl, ?_⟩
      unfold chkE; rw [if_pos hc3]; exact ⟨rfl, rfl⟩
    · -- c3.f
      refine w_seq (w_cutL [(19, .bool (decide (k.met < 1 ∨ k.met > 3)))] [1] [1] rfl (fun K' hK => ?_) ?_)
      · -- cut r3
        refine w_region (zd rfl (op_fieldAddr (off := 2) rfl tF38_2h) (zd rfl (op_load1 rfl tO3h (Ent.lab (l := 1) rfl (says_cel 2))) (zd rfl (op_lss rfl rfl) (zm rfl (wl_gsplit (t := 23) rfl (fun hg23 => ?_) (fun hg23 => ?_))))))
        · -- 23 is True
          refine wl_unwanted rfl rfl rfl rfl rfl rfl rfl rfl (wl_unwanted rfl rfl rfl rfl rfl rfl rfl rfl (wl_unwanted rfl rfl rfl rfl rfl rfl rfl rfl (zd rfl (op_pick_t rfl rfl) (za rfl (wl_nil (st_tn ?_))))))
          exact cut_done1 [1] hK rfl (by first | (rw [decide_eq_decide]; omega) | (symm; rw [decide_eq_false_iff_not]; omega) | (symm; rw [decide_eq_true_iff]; omega) | (simp; done) | (simp; omega) | (simp [*]; done) | (simp [*]; omega)) (by rfl) rfl rfl
        · -- 23 is False
          refine wl_wanted_det rfl rfl rfl rfl rfl rfl rfl (op_fieldAddr (off := 2) rfl tF38_2h) (wl_wanted_det rfl rfl rfl rfl rfl rfl rfl (op_load1 rfl tO3h (Ent.lab (l := 1) rfl (says_cel 2))) (wl_wanted_det rfl rfl rfl rfl rfl rfl rfl (op_gtr rfl rfl) (zd rfl (op_pick_f rfl rfl) (za rfl (wl_nil (st_tn ?_))))))
          exact cut_done1 [1] hK rfl (by first | (rw [decide_eq_decide]; omega) | (symm; rw [decide_eq_false_iff_not]; omega) | (symm; rw [decide_eq_true_iff]; omega) | (simp; done) | (simp; omega) | (simp [*]; done) | (simp [*]; omega)) (by rfl) rfl rfl
      · -- behind r3
        show W _ _ _ _ _ [(19, _), (1, _)] [(1, _)] _
        refine w_cond_d rfl (fun hc19 => ?_) (fun hc19 => ?_)
        · -- c19.t
          refine w_seq (w_region (za rfl (wl_nil (st_tn (w_ret (st_br (st_tr (st_ret (vs := [_]) [] Tryz.results17 ⟨rfl, trivial⟩ rfl ?_))))))))
          refine ⟨_, rfl, ?_⟩
          unfold chkE; rw [if_neg hc3, if_pos hc19]; exact ⟨rfl, rfl⟩
        · -- c19.f
          refine w_seq (w_cutL [(28, .bool (decide ((k.met = 3 ∧ ¬ goodB k.qn k.qd) ∨ (k.met ≠ 3 ∧ ¬ (k.qn, k.qd) = (0, 0)))))] [1] [1] rfl (fun K' hK => ?_) ?_)
          · -- cut r5
            refine w_region (zd rfl (op_fieldAddr (off := 2) rfl tF38_2h) (zd rfl (op_load1 rfl tO3h (Ent.lab (l := 1) rfl (says_cel 2))) (zd rfl (op_eql rfl rfl) (zm rfl (wl_gsplit (t := 32) rfl (fun hg32 => ?_) (fun hg32 => ?_))))))
            · -- 32 is True
              refine wl_wanted_det rfl rfl rfl rfl rfl rfl rfl (op_fieldAddr (off := 3) rfl tF38_3h) (wl_wanted_det rfl rfl rfl rfl rfl rfl rfl (op_loadA rfl tA35h (Ent.lab (l := 1) rfl (says_cel 3)) (Nat.le_of_ble_eq_true rfl)) (wl_wanted_det rfl rfl rfl rfl rfl rfl rfl (op_fn Tryz.func45 rfl rfl rfl (squant_any _ _ (by omega) (by omega))) ?_))
              refine wl_wanted_det rfl rfl rfl rfl rfl rfl rfl (op_not_d rfl) (zd rfl (op_pick_t rfl rfl) (zm rfl (wl_gsplit (t := 38) rfl (fun hg38 => ?_) (fun hg38 => ?_))))
              · -- 38 is True
                refine wl_unwanted rfl rfl rfl rfl rfl rfl rfl rfl (wl_unwanted rfl rfl rfl rfl rfl rfl rfl rfl (wl_unwanted rfl rfl rfl rfl rfl rfl rfl rfl (wl_unwanted rfl rfl rfl rfl rfl rfl rfl rfl (wl_unwantedU rfl rfl rfl rfl rfl rfl rfl ?_))))
                refine wl_unwantedU rfl rfl rfl rfl rfl rfl rfl ?_
                refine wl_unwantedU rfl rfl rfl rfl rfl rfl rfl ?_
                refine wl_unwantedU rfl rfl rfl rfl rfl rfl rfl ?_
                refine wl_unwanted rfl rfl rfl rfl rfl rfl rfl rfl (zd rfl (op_pick_t rfl rfl) (za rfl (wl_nil (st_tn ?_))))
                exact cut_done1 [1] hK rfl (by first | (rw [decide_eq_decide]; omega) | (symm; rw [decide_eq_false_iff_not]; omega) | (symm; rw [decide_eq_true_iff]; omega) | (simp; done) | (simp; omega) | (simp [*]; done) | (simp [*]; omega)) (by rfl) rfl rfl
              · -- 38 is False
                refine wl_wanted_det rfl rfl rfl rfl rfl rfl rfl (op_fieldAddr (off := 2) rfl tF38_2h) (wl_wanted_det rfl rfl rfl rfl rfl rfl rfl (op_load1 rfl tO3h (Ent.lab (l := 1) rfl (says_cel 2))) (wl_wanted_det rfl rfl rfl rfl rfl rfl rfl (op_neq rfl rfl) (wl_wanted_det rfl rfl rfl rfl rfl rfl rfl (op_move rfl) (wl_gsplit (t := 42) rfl (fun hg42 => ?_) (fun hg42 => ?_)))))
                · -- 42 is True
                  refine wl_wanted_det rfl rfl rfl rfl rfl rfl rfl (op_fieldAddr (off := 3) rfl tF38_3h) (wl_wanted_det rfl rfl rfl rfl rfl rfl rfl (op_loadA rfl tA35h (Ent.lab (l := 1) rfl (says_cel 3)) (Nat.le_of_ble_eq_true rfl)) (wl_wanted_det rfl rfl rfl rfl rfl rfl rfl (op_build tB35h rfl rfl) (wl_wanted_det rfl rfl rfl rfl rfl rfl rfl (op_neA rfl rfl tG35h (eq24 _ _ _ _)) (wl_wanted_det rfl rfl rfl rfl rfl rfl rfl (op_pick_t rfl rfl) (zd rfl (op_pick_f rfl rfl) (za rfl (wl_nil (st_tn ?_))))))))
                  exact cut_done1 [1] hK rfl (by first | (rw [decide_eq_decide]; omega) | (symm; rw [decide_eq_false_iff_not]; omega) | (symm; rw [decide_eq_true_iff]; omega) | (simp; done) | (simp; omega) | (simp [*]; done) | (simp [*]; omega)) (by rfl) rfl rfl
                · -- 42 is False
                  refine wl_unwanted rfl rfl rfl rfl rfl rfl rfl rfl (wl_unwanted rfl rfl rfl rfl rfl rfl rfl rfl (wl_unwanted rfl rfl rfl rfl rfl rfl rfl rfl (wl_unwanted rfl rfl rfl rfl rfl rfl rfl rfl (wl_wanted_det rfl rfl rfl rfl rfl rfl rfl (op_pick_f rfl rfl) (zd rfl (op_pick_f rfl rfl) (za rfl (wl_nil (st_tn ?_))))))))
                  exact cut_done1 [1] hK rfl (by first | (rw [decide_eq_decide]; omega) | (symm; rw [decide_eq_false_iff_not]; omega) | (symm; rw [decide_eq_true_iff]; omega) | (simp; done) | (simp; omega) | (simp [*]; done) | (simp [*]; omega)) (by rfl) rfl rfl
            · -- 32 is False
              refine wl_unwanted rfl rfl rfl rfl rfl rfl rfl rfl (wl_unwanted rfl rfl rfl rfl rfl rfl rfl rfl (wl_unwanted rfl rfl rfl rfl rfl rfl rfl rfl (wl_unwanted rfl rfl rfl rfl rfl rfl rfl rfl (zd rfl (op_pick_f rfl rfl) (zm rfl (wl_wanted_det rfl rfl rfl rfl rfl rfl rfl (op_fieldAddr (off := 2) rfl tF38_2h) (wl_wanted_det rfl rfl rfl rfl rfl rfl rfl (op_load1 rfl tO3h (Ent.lab (l := 1) rfl (says_cel 2))) (wl_wanted_det rfl rfl rfl rfl rfl rfl rfl (op_neq rfl rfl) (wl_wanted_det rfl rfl rfl rfl rfl rfl rfl (op_move rfl) (wl_gsplit (t := 42) rfl (fun hg42 => ?_) (fun hg42 => ?_)))))))))))
              · -- 42 is True
                refine wl_wanted_det rfl rfl rfl rfl rfl rfl rfl (op_fieldAddr (off := 3) rfl tF38_3h) (wl_wanted_det rfl rfl rfl rfl rfl rfl rfl (op_loadA rfl tA35h (Ent.lab (l := 1) rfl (says_cel 3)) (Nat.le_of_ble_eq_true rfl)) (wl_wanted_det rfl rfl rfl rfl rfl rfl rfl (op_build tB35h rfl rfl) (wl_wanted_det rfl rfl rfl rfl rfl rfl rfl (op_neA rfl rfl tG35h (eq24 _ _ _ _)) (wl_wanted_det rfl rfl rfl rfl rfl rfl rfl (op_pick_t rfl rfl) (zd rfl (op_pick_f rfl rfl) (za rfl (wl_nil (st_tn ?_))))))))
                exact cut_done1 [1] hK rfl (by first | (rw [decide_eq_decide]; omega) | (symm; rw [decide_eq_false_iff_not]; omega) | (symm; rw [decide_eq_true_iff]; omega) | (simp; done) | (simp; omega) | (simp [*]; done) | (simp [*]; omega)) (by rfl) rfl rfl
              · -- 42 is False
                refine wl_unwanted rfl rfl rfl rfl rfl rfl rfl rfl (wl_unwanted rfl rfl rfl rfl rfl rfl rfl rfl (wl_unwanted rfl rfl rfl rfl rfl rfl rfl rfl (wl_unwanted rfl rfl rfl rfl rfl rfl rfl rfl (wl_wanted_det rfl rfl rfl rfl rfl rfl rfl (op_pick_f rfl rfl) (zd rfl (op_pick_f rfl rfl) (za rfl (wl_nil (st_tn ?_))))))))
                exact cut_done1 [1] hK rfl (by first | (rw [decide_eq_decide]; omega) | (symm; rw [decide_eq_false_iff_not]; omega) | (symm; rw [decide_eq_true_iff]; omega) | (simp; done) | (simp; omega) | (simp [*]; done) | (simp [*]; omega)) (by rfl) rfl rfl
          · -- behind r5
            show W _ _ _ _ _ [(28, _), (1, _)] [(1, _)] _
            refine w_cond_d rfl (fun hc28 => ?_) (fun hc28 => ?_)
            · -- c28.t
              refine w_seq (w_region (za rfl (wl_nil (st_tn (w_ret (st_br (st_tr (st_ret (vs := [_]) [] Tryz.results17 ⟨rfl, trivial⟩ rfl ?_))))))))
              refine ⟨_, rfl, ?_⟩
              unfold chkE; rw [if_neg hc3, if_neg hc19, if_pos hc28]; exact ⟨rfl, rfl⟩
            · -- c28.f
              refine w_seq (w_cutL [(49, .bool (decide (fr < 0 ∨ fr > 1048576)))] [1] [1] rfl (fun K' hK => ?_) ?_)
              · -- cut r7
                refine w_region (zd rfl (op_fieldAddr (off := 5) rfl tF38_4h) (zd rfl (op_load1 rfl tO3h (Ent.lab (l := 1) rfl (says_cel 5))) (zd rfl (op_lss rfl rfl) (zm rfl (wl_gsplit (t := 53) rfl (fun hg53 => ?_) (fun hg53 => ?_))))))
                · -- 53 is True
                  refine wl_unwanted rfl rfl rfl rfl rfl rfl rfl rfl (wl_unwanted rfl rfl rfl rfl rfl rfl rfl rfl (wl_unwanted rfl rfl rfl rfl rfl rfl rfl rfl (zd rfl (op_pick_t rfl rfl) (za rfl (wl_nil (st_tn ?_))))))
                  exact cut_done1 [1] hK rfl (by first | (rw [decide_eq_decide]; omega) | (symm; rw [decide_eq_false_iff_not]; omega) | (symm; rw [decide_eq_true_iff]; omega) | (simp; done) | (simp; omega) | (simp [*]; done) | (simp [*]; omega)) (by rfl) rfl rfl
                · -- 53 is False
                  refine wl_wanted_det rfl rfl rfl rfl rfl rfl rfl (op_fieldAddr (off := 5) rfl tF38_4h) (wl_wanted_det rfl rfl rfl rfl rfl rfl rfl (op_load1 rfl tO3h (Ent.lab (l := 1) rfl (says_cel 5))) (wl_wanted_det rfl rfl rfl rfl rfl rfl rfl (op_gtr rfl rfl) (zd rfl (op_pick_f rfl rfl) (za rfl (wl_nil (st_tn ?_))))))
                  exact cut_done1 [1] hK rfl (by first | (rw [decide_eq_decide]; omega) | (symm; rw [decide_eq_false_iff_not]; omega) | (symm; rw [decide_eq_true_iff]; omega) | (simp; done) | (simp; omega) | (simp [*]; done) | (simp [*]; omega)) (by rfl) rfl rfl
              · -- behind r7
                show W _ _ _ _ _ [(49, _), (1, _)] [(1, _)] _
                refine w_cond_d rfl (fun hc49 => ?_) (fun hc49 => ?_)
                · -- c49.t
                  refine w_seq (w_region (za rfl (wl_nil (st_tn (w_ret (st_br (st_tr (st_ret (vs := [_]) [] Tryz.results17 ⟨rfl, trivial⟩ rfl ?_))))))))
                  refine ⟨_, rfl, ?_⟩
                  unfold chkE; rw [if_neg hc3, if_neg hc19, if_neg hc28, if_pos hc49]; exact ⟨rfl, rfl⟩
                · -- c49.f
                  refine w_seq (w_region (zd rfl (op_fieldAddr (off := 6) rfl tF38_5h) (zd rfl (op_load1 rfl tO36h (Ent.lab (l := 1) rfl (says_cel 6))) (zd rfl (op_lenT rfl tS36h (Sl.ent (by first | exact Sl.app (by assumption) _ | exact Sl.app (Sl.app (by assumption) _) _))) ?_))))
                  refine zd rfl (op_gtr rfl rfl) (za rfl (wl_nil (st_tn (w_cond_d rfl (fun hc58 => ?_) (fun hc58 => ?_)))))
                  · -- c58.t
                    refine w_seq (w_region (za rfl (wl_nil (st_tn (w_ret (st_br (st_tr (st_ret (vs := [_]) [] Tryz.results17 ⟨rfl, trivial⟩ rfl ?_))))))))
                    refine ⟨_, rfl, ?_⟩
                    unfold chkE; rw [if_neg hc3, if_neg hc19, if_neg hc28, if_neg hc49, if_pos (by omega)]; exact ⟨rfl, rfl⟩
                  · -- c58.f
                    refine w_seq (w_region (zd rfl (op_fieldAddr (off := 5) rfl tF38_4h) (zd rfl (op_load1 rfl tO3h (Ent.lab (l := 1) rfl (says_cel 5))) (zd rfl (op_fieldAddr (off := 6) rfl tF38_5h) (zd rfl (op_load1 rfl tO36h (Ent.lab (l := 1) rfl (says_cel 6))) (zd rfl (op_lenT rfl tS36h (Sl.ent (by first | exact Sl.app (by assumption) _ | exact Sl.app (Sl.app (by assumption) _) _))) ?_))))))
                    refine zd rfl (op_add' rfl rfl (by omega)) ?_
                    refine zd rfl (op_gtr rfl rfl) (za rfl (wl_nil (st_tn (w_cond_d rfl (fun hc63 => ?_) (fun hc63 => ?_)))))
                    · -- c63.t
                      refine w_seq (w_region (za rfl (wl_nil (st_tn (w_ret (st_br (st_tr (st_ret (vs := [_]) [] Tryz.results17 ⟨rfl, trivial⟩ rfl ?_))))))))
                      refine ⟨_, rfl, ?_⟩
                      unfold chkE; rw [if_neg hc3, if_neg hc19, if_neg hc28, if_neg hc49, if_neg (by omega), if_pos (by omega)]; exact ⟨rfl, rfl⟩
                    · -- c63.f
                      refine w_seq (w_region (zd rfl (op_fieldAddr (off := 6) rfl tF38_5h) (zd rfl (op_load1 rfl tO36h (Ent.lab (l := 1) rfl (says_cel 6))) (zd rfl (op_fn Tryz.func46 rfl rfl rfl (containsFuncI (fs := []) (cs := []) (p := fun x => decide (x < 0 ∨ x > 1099511627776)) (Sl.app h _) Tryz.func47 rfl rfl (fun X r => badv_any r))) (za rfl (wl_nil (st_tn (w_cond rfl (fun hc71 => ?_) (fun hc71 => ?_)))))))))
                      · -- c71.t
                        refine w_seq (w_region (za rfl (wl_nil (st_tn (w_ret (st_br (st_tr (st_ret (vs := [_]) [] Tryz.results17 ⟨rfl, trivial⟩ rfl ?_))))))))
                        refine ⟨_, rfl, ?_⟩
                        unfold chkE; rw [if_neg hc3, if_neg hc19, if_neg hc28, if_neg hc49, if_neg (by omega), if_neg (by omega), if_pos hc71]; exact ⟨rfl, rfl⟩
                      · -- c71.f
                        refine w_skip (st_bn (st_tn (w_seq (w_region (za rfl (wl_nil (st_tn (w_ret (st_ret (vs := [_]) [] Tryz.results17 ⟨rfl, trivial⟩ rfl ?_)))))))))
                        refine ⟨_, rfl, ?_⟩
                        unfold chkE; rw [if_neg hc3, if_neg hc19, if_neg hc28, if_neg hc49, if_neg (by omega), if_neg (by omega), if_neg (by rw [hc71]; simp)]; exact ⟨rfl, rfl⟩
def sameK (k m : SK) : Prop := k.svc = m.svc ∧ k.op = m.op ∧ k.met = m.met ∧ (k.qn, k.qd) = (m.qn, m.qd)
instance (k m : SK) : Decidable (sameK k m) := by unfold sameK; infer_instance
theorem sameK_eq {k m : SK} : sameK k m ↔ k = m := by
  unfold sameK
  constructor
  · rintro ⟨h1, h2, h3, h4⟩; cases k; cases m; simp_all
  · rintro rfl; exact ⟨rfl, rfl, rfl, rfl⟩
set_option maxHeartbeats 400000 in
set_option maxRecDepth 100000 in
theorem same_any {σ : World} {F : List Res} {v w : Value} (k m : SK) (fr fr' : Int) :
    FnT Tryz.prog σ F 25 [sr k fr v, sr m fr' w] [] (fun u ρ => u = .bool (decide (sameK k m)) ∧ ρ = []) := by
  refine fn_of 31 Tryz.func25 rfl Tryz.ntmps25 rfl ?_
  refine w_seq (w_region (wl_op [] rfl rfl rfl rfl (op_box (T := 38) (l := 2) rfl) ?_))
  rintro _ _ ⟨b2, rfl, rfl⟩
  refine wl_op [] rfl rfl rfl rfl (op_box (T := 38) (l := 3) rfl) ?_
  rintro _ _ ⟨b3, rfl, rfl⟩
  refine za rfl (wl_nil (st_tn (w_seq (w_region (zd rfl (op_fieldAddr (off := 0) rfl tF38_0h) (zd rfl (op_load1 rfl tO9h (Ent.lab (l := 2) rfl (says_cel 0))) (zd rfl (op_fieldAddr (off := 0) rfl tF38_0h) (zd rfl (op_load1 rfl tO9h (Ent.lab (l := 3) rfl (says_cel 0))) (zd rfl (op_eqStr rfl rfl) (zm rfl (wl_gsplit (t := 10) rfl (fun hg10 => ?_) (fun hg10 => ?_))))))))))))
  · -- 10 is True
    refine wl_wanted_det rfl rfl rfl rfl rfl rfl rfl (op_fieldAddr (off := 1) rfl tF38_1h) (wl_wanted_det rfl rfl rfl rfl rfl rfl rfl (op_load1 rfl tO9h (Ent.lab (l := 2) rfl (says_cel 1))) (wl_wanted_det rfl rfl rfl rfl rfl rfl rfl (op_fieldAddr (off := 1) rfl tF38_1h) (wl_wanted_det rfl rfl rfl rfl rfl rfl rfl (op_load1 rfl tO9h (Ent.lab (l := 3) rfl (says_cel 1))) (wl_wanted_det rfl rfl rfl rfl rfl rfl rfl (op_eqStr rfl rfl) (zd rfl (op_pick_t rfl rfl) (zm rfl (wl_gsplit (t := 17) rfl (fun hg17 => ?_) (fun hg17 => ?_))))))))
    · -- 17 is True
      refine wl_wanted_det rfl rfl rfl rfl rfl rfl rfl (op_fieldAddr (off := 2) rfl tF38_2h) (wl_wanted_det rfl rfl rfl rfl rfl rfl rfl (op_load1 rfl tO3h (Ent.lab (l := 2) rfl (says_cel 2))) (wl_wanted_det rfl rfl rfl rfl rfl rfl rfl (op_fieldAddr (off := 2) rfl tF38_2h) (wl_wanted_det rfl rfl rfl rfl rfl rfl rfl (op_load1 rfl tO3h (Ent.lab (l := 3) rfl (says_cel 2))) (wl_wanted_det rfl rfl rfl rfl rfl rfl rfl (op_eql rfl rfl) (zd rfl (op_pick_t rfl rfl) (zm rfl (wl_gsplit (t := 24) rfl (fun hg24 => ?_) (fun hg24 => ?_))))))))
      · -- 24 is True
        refine wl_wanted_det rfl rfl rfl rfl rfl rfl rfl (op_fieldAddr (off := 3) rfl tF38_3h) (wl_wanted_det rfl rfl rfl rfl rfl rfl rfl (op_loadA rfl tA35h (Ent.lab (l := 2) rfl (says_cel 3)) (Nat.le_of_ble_eq_true rfl)) (wl_wanted_det rfl rfl rfl rfl rfl rfl rfl (op_fieldAddr (off := 3) rfl tF38_3h) (wl_wanted_det rfl rfl rfl rfl rfl rfl rfl (op_loadA rfl tA35h (Ent.lab (l := 3) rfl (says_cel 3)) (Nat.le_of_ble_eq_true rfl)) (wl_wanted_det rfl rfl rfl rfl rfl rfl rfl (op_eqA rfl rfl tG35h (eq24 _ _ _ _)) (zd rfl (op_pick_t rfl rfl) (za rfl (wl_nil (st_tn (w_ret (st_ret (vs := [_]) [] Tryz.results25 ⟨rfl, trivial⟩ rfl ?_))))))))))
        refine ⟨_, rfl, ?_⟩
        refine ⟨?_, rfl⟩
        unfold sameK
        first | (simp [retv, *]; done) | (simp_all [retv]; done)
      · -- 24 is False
        refine wl_unwanted rfl rfl rfl rfl rfl rfl rfl rfl (wl_unwanted rfl rfl rfl rfl rfl rfl rfl rfl (wl_unwanted rfl rfl rfl rfl rfl rfl rfl rfl (wl_unwanted rfl rfl rfl rfl rfl rfl rfl rfl (wl_unwanted rfl rfl rfl rfl rfl rfl rfl rfl (zd rfl (op_pick_f rfl rfl) (za rfl (wl_nil (st_tn (w_ret (st_ret (vs := [_]) [] Tryz.results25 ⟨rfl, trivial⟩ rfl ?_))))))))))
        refine ⟨_, rfl, ?_⟩
        refine ⟨?_, rfl⟩
        unfold sameK
        first | (simp [retv, *]; done) | (simp_all [retv]; done)
    · -- 17 is False
      refine wl_unwanted rfl rfl rfl rfl rfl rfl rfl rfl (wl_unwanted rfl rfl rfl rfl rfl rfl rfl rfl (wl_unwanted rfl rfl rfl rfl rfl rfl rfl rfl (wl_unwanted rfl rfl rfl rfl rfl rfl rfl rfl (wl_unwanted rfl rfl rfl rfl rfl rfl rfl rfl (zd rfl (op_pick_f rfl rfl) (zm rfl (wl_unwanted rfl rfl rfl rfl rfl rfl rfl rfl (wl_unwanted rfl rfl rfl rfl rfl rfl rfl rfl (wl_unwanted rfl rfl rfl rfl rfl rfl rfl rfl (wl_unwanted rfl rfl rfl rfl rfl rfl rfl rfl (wl_unwanted rfl rfl rfl rfl rfl rfl rfl rfl (zd rfl (op_pick_f rfl rfl) (za rfl ?_)))))))))))))
      refine wl_nil (st_tn (w_ret (st_ret (vs := [_]) [] Tryz.results25 ⟨rfl, trivial⟩ rfl ?_)))
      refine ⟨_, rfl, ?_⟩
      refine ⟨?_, rfl⟩
      unfold sameK
      first | (simp [retv, *]; done) | (simp_all [retv]; done)
  · -- 10 is False
    refine wl_unwanted rfl rfl rfl rfl rfl rfl rfl rfl (wl_unwanted rfl rfl rfl rfl rfl rfl rfl rfl (wl_unwanted rfl rfl rfl rfl rfl rfl rfl rfl (wl_unwanted rfl rfl rfl rfl rfl rfl rfl rfl (wl_unwanted rfl rfl rfl rfl rfl rfl rfl rfl (zd rfl (op_pick_f rfl rfl) (zm rfl (wl_unwanted rfl rfl rfl rfl rfl rfl rfl rfl (wl_unwanted rfl rfl rfl rfl rfl rfl rfl rfl (wl_unwanted rfl rfl rfl rfl rfl rfl rfl rfl (wl_unwanted rfl rfl rfl rfl rfl rfl rfl rfl (wl_unwanted rfl rfl rfl rfl rfl rfl rfl rfl (zd rfl (op_pick_f rfl rfl) (zm rfl ?_)))))))))))))
    refine wl_unwanted rfl rfl rfl rfl rfl rfl rfl rfl (wl_unwanted rfl rfl rfl rfl rfl rfl rfl rfl (wl_unwanted rfl rfl rfl rfl rfl rfl rfl rfl (wl_unwanted rfl rfl rfl rfl rfl rfl rfl rfl (wl_unwanted rfl rfl rfl rfl rfl rfl rfl rfl (zd rfl (op_pick_f rfl rfl) (za rfl (wl_nil (st_tn (w_ret (st_ret (vs := [_]) [] Tryz.results25 ⟨rfl, trivial⟩ rfl ?_))))))))))
    refine ⟨_, rfl, ?_⟩
    refine ⟨?_, rfl⟩
    unfold sameK
    first | (simp [retv, *]; done) | (simp_all [retv]; done)
set_option maxHeartbeats 400000 in
set_option maxRecDepth 100000 in
theorem equal_any {σ : World} {F : List Res} {a b : Option Addr} {c d : Nat} {l m : List Int} (k k' : SK) (fr fr' : Int) (h : Sl σ F encZ 1 (.slice a l.length c) l) (g : Sl σ F encZ 1 (.slice b m.length d) m) :
    FnT Tryz.prog σ F 9 [sr k fr (.slice a l.length c), sr k' fr' (.slice b m.length d)] [] (fun u ρ => u = .bool (decide (sameK k k' ∧ fr = fr' ∧ l = m)) ∧ ρ = []) := by
  refine fn_of 22 Tryz.func9 rfl Tryz.ntmps9 rfl ?_
  refine w_seq (w_region (wl_op [] rfl rfl rfl rfl (op_box (T := 38) (l := 2) rfl) ?_))
  rintro _ _ ⟨b2, rfl, rfl⟩
  refine wl_op [] rfl rfl rfl rfl (op_box (T := 38) (l := 3) rfl) ?_
  rintro _ _ ⟨b3, rfl, rfl⟩
  refine za rfl (wl_nil (st_tn (w_seq (w_region (zd rfl (op_loadA rfl tA38h (Ent.lab (l := 2) rfl (says_cel 0)) (Nat.le_of_ble_eq_true rfl)) (zd rfl (op_loadA rfl tA38h (Ent.lab (l := 3) rfl (says_cel 0)) (Nat.le_of_ble_eq_true rfl)) (zd rfl (op_fn Tryz.func25 rfl rfl rfl (same_any _ _ _ _)) (zm rfl (wl_gsplit (t := 8) rfl (fun hg8 => ?_) (fun hg8 => ?_))))))))))
  · -- 8 is True
    refine wl_wanted_det rfl rfl rfl rfl rfl rfl rfl (op_fieldAddr (off := 5) rfl tF38_4h) (wl_wanted_det rfl rfl rfl rfl rfl rfl rfl (op_load1 rfl tO3h (Ent.lab (l := 2) rfl (says_cel 5))) (wl_wanted_det rfl rfl rfl rfl rfl rfl rfl (op_fieldAddr (off := 5) rfl tF38_4h) (wl_wanted_det rfl rfl rfl rfl rfl rfl rfl (op_load1 rfl tO3h (Ent.lab (l := 3) rfl (says_cel 5))) (wl_wanted_det rfl rfl rfl rfl rfl rfl rfl (op_eql rfl rfl) (zd rfl (op_pick_t rfl rfl) (zm rfl (wl_gsplit (t := 15) rfl (fun hg15 => ?_) (fun hg15 => ?_))))))))
    · -- 15 is True
      refine wl_wanted_det rfl rfl rfl rfl rfl rfl rfl (op_fieldAddr (off := 6) rfl tF38_5h) (wl_wanted_det rfl rfl rfl rfl rfl rfl rfl (op_load1 rfl tO36h (Ent.lab (l := 2) rfl (says_cel 6))) (wl_wanted_det rfl rfl rfl rfl rfl rfl rfl (op_fieldAddr (off := 6) rfl tF38_5h) (wl_wanted_det rfl rfl rfl rfl rfl rfl rfl (op_load1 rfl tO36h (Ent.lab (l := 3) rfl (says_cel 6))) (wl_wanted_det rfl rfl rfl rfl rfl rfl rfl (op_fn Tryz.func30 rfl rfl rfl (equalI (Sl.app h _) (Sl.app g _))) (zd rfl (op_pick_t rfl rfl) (za rfl (wl_nil (st_tn (w_ret (st_ret (vs := [_]) [] Tryz.results9 ⟨rfl, trivial⟩ rfl ?_))))))))))
      refine ⟨_, rfl, ?_⟩
      refine ⟨?_, rfl⟩
      first | (simp [retv, *]; done) | (simp_all [retv]; done)
    · -- 15 is False
      refine wl_unwanted rfl rfl rfl rfl rfl rfl rfl rfl (wl_unwanted rfl rfl rfl rfl rfl rfl rfl rfl (wl_unwanted rfl rfl rfl rfl rfl rfl rfl rfl (wl_unwanted rfl rfl rfl rfl rfl rfl rfl rfl (wl_unwanted rfl rfl rfl rfl rfl rfl rfl rfl (zd rfl (op_pick_f rfl rfl) (za rfl (wl_nil (st_tn (w_ret (st_ret (vs := [_]) [] Tryz.results9 ⟨rfl, trivial⟩ rfl ?_))))))))))
      refine ⟨_, rfl, ?_⟩
      refine ⟨?_, rfl⟩
      first | (simp [retv, *]; done) | (simp_all [retv]; done)
  · -- 8 is False
    refine wl_unwanted rfl rfl rfl rfl rfl rfl rfl rfl (wl_unwanted rfl rfl rfl rfl rfl rfl rfl rfl (wl_unwanted rfl rfl rfl rfl rfl rfl rfl rfl (wl_unwanted rfl rfl rfl rfl rfl rfl rfl rfl (wl_unwanted rfl rfl rfl rfl rfl rfl rfl rfl (zd rfl (op_pick_f rfl rfl) (zm rfl (wl_unwanted rfl rfl rfl rfl rfl rfl rfl rfl (wl_unwanted rfl rfl rfl rfl rfl rfl rfl rfl (wl_unwanted rfl rfl rfl rfl rfl rfl rfl rfl (wl_unwanted rfl rfl rfl rfl rfl rfl rfl rfl (wl_unwanted rfl rfl rfl rfl rfl rfl rfl rfl (zd rfl (op_pick_f rfl rfl) (za rfl ?_)))))))))))))
    refine wl_nil (st_tn (w_ret (st_ret (vs := [_]) [] Tryz.results9 ⟨rfl, trivial⟩ rfl ?_)))
    refine ⟨_, rfl, ?_⟩
    refine ⟨?_, rfl⟩
    first | (simp [retv, *]; done) | (simp_all [retv]; done)
def shiftR (k : SK) (fr : Int) (l : List Int) (by_ : Int) : R :=
  if by_ < -1048576 ∨ by_ > 1048576 ∨ fr + by_ < 0 ∨ fr + by_ > 1048576 ∨ fr + by_ + l.length > 1048577 then zeroR 32 else ⟨k, fr + by_, l, 0⟩
set_option maxHeartbeats 1000000 in
set_option maxRecDepth 100000 in
theorem shift_any {σ : World} {F : List Res} {a : Option Addr} {c : Nat} {l : List Int} (lab : Nat) (k : SK) (fr y : Int) (h : Sl σ F encZ 1 (.slice a l.length c) l) (hl : l.length ≤ 1048576) (hf : 0 ≤ fr ∧ fr ≤ 1048576) :
    FnT Tryz.prog σ F 12 [sr k fr (.slice a l.length c), .int .i64 y] [] (SerV (shiftR k fr l y) lab) := by
  refine fn_of 47 Tryz.func12 rfl Tryz.ntmps12 rfl ?_
  have hle := h.i64
  refine w_seq (w_region (wl_op [] rfl rfl rfl rfl (op_box (T := 38) (l := 2) rfl) ?_))
  rintro _ _ ⟨b2, rfl, rfl⟩
  refine wl_op [] rfl rfl rfl rfl (op_alloc (l := 4) tN38h) ?_
  rintro _ _ ⟨b4, rfl, rfl⟩
  refine za rfl (wl_nil (st_tn (w_seq (w_seq (w_cutL [(36, .bool (decide (y < -1048576 ∨ y > 1048576 ∨ fr + y < 0 ∨ fr + y > 1048576 ∨ fr + y + l.length > 1048577)))] [1, 2, 4] [2, 4] rfl (fun K' hK => ?_) ?_)))))
  · -- cut r1
    refine w_region (zm rfl (zd rfl (op_lss rfl rfl) (zm rfl (wl_gsplit (t := 8) rfl (fun hg8 => ?_) (fun hg8 => ?_)))))
    · -- 8 is True
      refine wl_unwanted rfl rfl rfl rfl rfl rfl rfl rfl (wl_unwanted rfl rfl rfl rfl rfl rfl rfl rfl (zd rfl (op_pick_t rfl rfl) (zm rfl (wl_unwanted rfl rfl rfl rfl rfl rfl rfl rfl (wl_unwanted rfl rfl rfl rfl rfl rfl rfl rfl (wl_unwanted rfl rfl rfl rfl rfl rfl rfl rfl (wl_unwanted rfl rfl rfl rfl rfl rfl rfl rfl (wl_unwanted rfl rfl rfl rfl rfl rfl rfl rfl (zd rfl (op_pick_t rfl rfl) (zm rfl (wl_unwanted rfl rfl rfl rfl rfl rfl rfl rfl (wl_unwanted rfl rfl rfl rfl rfl rfl rfl rfl (wl_unwanted rfl rfl rfl rfl rfl rfl rfl rfl ?_)))))))))))))
      refine wl_unwanted rfl rfl rfl rfl rfl rfl rfl rfl (wl_unwanted rfl rfl rfl rfl rfl rfl rfl rfl (zd rfl (op_pick_t rfl rfl) (zm rfl (wl_unwanted rfl rfl rfl rfl rfl rfl rfl rfl (wl_unwanted rfl rfl rfl rfl rfl rfl rfl rfl (wl_unwanted rfl rfl rfl rfl rfl rfl rfl rfl (wl_unwanted rfl rfl rfl rfl rfl rfl rfl rfl (wl_unwanted rfl rfl rfl rfl rfl rfl rfl rfl (wl_unwanted rfl rfl rfl rfl rfl rfl rfl rfl (wl_unwanted rfl rfl rfl rfl rfl rfl rfl rfl (wl_unwanted rfl rfl rfl rfl rfl rfl rfl rfl (wl_unwanted rfl rfl rfl rfl rfl rfl rfl rfl (zd rfl (op_pick_t rfl rfl) ?_)))))))))))))
      refine wl_nil (st_tn ?_)
      exact cut_done1 [2, 4] hK rfl (by first | (rw [decide_eq_decide]; omega) | (symm; rw [decide_eq_false_iff_not]; omega) | (symm; rw [decide_eq_true_iff]; omega) | (simp; done) | (simp; omega) | (simp [*]; done) | (simp [*]; omega)) (by rfl) rfl rfl
    · -- 8 is False
      refine wl_wanted_det rfl rfl rfl rfl rfl rfl rfl (op_move rfl) (wl_wanted_det rfl rfl rfl rfl rfl rfl rfl (op_gtr rfl rfl) (zd rfl (op_pick_f rfl rfl) (zm rfl (wl_gsplit (t := 12) rfl (fun hg12 => ?_) (fun hg12 => ?_)))))
      · -- 12 is True
        refine wl_unwanted rfl rfl rfl rfl rfl rfl rfl rfl (wl_unwanted rfl rfl rfl rfl rfl rfl rfl rfl (wl_unwanted rfl rfl rfl rfl rfl rfl rfl rfl (wl_unwanted rfl rfl rfl rfl rfl rfl rfl rfl (wl_unwanted rfl rfl rfl rfl rfl rfl rfl rfl (zd rfl (op_pick_t rfl rfl) (zm rfl (wl_unwanted rfl rfl rfl rfl rfl rfl rfl rfl (wl_unwanted rfl rfl rfl rfl rfl rfl rfl rfl (wl_unwanted rfl rfl rfl rfl rfl rfl rfl rfl (wl_unwanted rfl rfl rfl rfl rfl rfl rfl rfl (wl_unwanted rfl rfl rfl rfl rfl rfl rfl rfl (zd rfl (op_pick_t rfl rfl) (zm rfl ?_)))))))))))))
        refine wl_unwanted rfl rfl rfl rfl rfl rfl rfl rfl (wl_unwanted rfl rfl rfl rfl rfl rfl rfl rfl (wl_unwanted rfl rfl rfl rfl rfl rfl rfl rfl (wl_unwanted rfl rfl rfl rfl rfl rfl rfl rfl (wl_unwanted rfl rfl rfl rfl rfl rfl rfl rfl (wl_unwanted rfl rfl rfl rfl rfl rfl rfl rfl (wl_unwanted rfl rfl rfl rfl rfl rfl rfl rfl (wl_unwanted rfl rfl rfl rfl rfl rfl rfl rfl (wl_unwanted rfl rfl rfl rfl rfl rfl rfl rfl (zd rfl (op_pick_t rfl rfl) (wl_nil (st_tn ?_)))))))))))
        exact cut_done1 [2, 4] hK rfl (by first | (rw [decide_eq_decide]; omega) | (symm; rw [decide_eq_false_iff_not]; omega) | (symm; rw [decide_eq_true_iff]; omega) | (simp; done) | (simp; omega) | (simp [*]; done) | (simp [*]; omega)) (by rfl) rfl rfl
      · -- 12 is False
        refine wl_wanted_det rfl rfl rfl rfl rfl rfl rfl (op_fieldAddr (off := 5) rfl tF38_4h) (wl_wanted_det rfl rfl rfl rfl rfl rfl rfl (op_load1 rfl tO3h (Ent.lab (l := 2) rfl (says_cel 5))) (wl_wanted_det rfl rfl rfl rfl rfl rfl rfl (op_move rfl) (wl_wanted_det rfl rfl rfl rfl rfl rfl rfl (op_add' rfl rfl (by omega)) ?_)))
        refine wl_wanted_det rfl rfl rfl rfl rfl rfl rfl (op_lss rfl rfl) (zd rfl (op_pick_f rfl rfl) (zm rfl (wl_gsplit (t := 19) rfl (fun hg19 => ?_) (fun hg19 => ?_))))
        · -- 19 is True
          refine wl_unwanted rfl rfl rfl rfl rfl rfl rfl rfl (wl_unwanted rfl rfl rfl rfl rfl rfl rfl rfl (wl_unwanted rfl rfl rfl rfl rfl rfl rfl rfl (wl_unwanted rfl rfl rfl rfl rfl rfl rfl rfl (wl_unwanted rfl rfl rfl rfl rfl rfl rfl rfl (zd rfl (op_pick_t rfl rfl) (zm rfl (wl_unwanted rfl rfl rfl rfl rfl rfl rfl rfl (wl_unwanted rfl rfl rfl rfl rfl rfl rfl rfl (wl_unwanted rfl rfl rfl rfl rfl rfl rfl rfl (wl_unwanted rfl rfl rfl rfl rfl rfl rfl rfl (wl_unwanted rfl rfl rfl rfl rfl rfl rfl rfl (wl_unwanted rfl rfl rfl rfl rfl rfl rfl rfl (wl_unwanted rfl rfl rfl rfl rfl rfl rfl rfl ?_)))))))))))))
          refine wl_unwanted rfl rfl rfl rfl rfl rfl rfl rfl (wl_unwanted rfl rfl rfl rfl rfl rfl rfl rfl (zd rfl (op_pick_t rfl rfl) (wl_nil (st_tn ?_))))
          exact cut_done1 [2, 4] hK rfl (by first | (rw [decide_eq_decide]; omega) | (symm; rw [decide_eq_false_iff_not]; omega) | (symm; rw [decide_eq_true_iff]; omega) | (simp; done) | (simp; omega) | (simp [*]; done) | (simp [*]; omega)) (by rfl) rfl rfl
        · -- 19 is False
          refine wl_wanted_det rfl rfl rfl rfl rfl rfl rfl (op_fieldAddr (off := 5) rfl tF38_4h) (wl_wanted_det rfl rfl rfl rfl rfl rfl rfl (op_load1 rfl tO3h (Ent.lab (l := 2) rfl (says_cel 5))) (wl_wanted_det rfl rfl rfl rfl rfl rfl rfl (op_move rfl) (wl_wanted_det rfl rfl rfl rfl rfl rfl rfl (op_add' rfl rfl (by omega)) ?_)))
          refine wl_wanted_det rfl rfl rfl rfl rfl rfl rfl (op_gtr rfl rfl) (zd rfl (op_pick_f rfl rfl) (zm rfl (wl_gsplit (t := 26) rfl (fun hg26 => ?_) (fun hg26 => ?_))))
          · -- 26 is True
            refine wl_unwanted rfl rfl rfl rfl rfl rfl rfl rfl (wl_unwanted rfl rfl rfl rfl rfl rfl rfl rfl (wl_unwanted rfl rfl rfl rfl rfl rfl rfl rfl (wl_unwanted rfl rfl rfl rfl rfl rfl rfl rfl (wl_unwanted rfl rfl rfl rfl rfl rfl rfl rfl (wl_unwanted rfl rfl rfl rfl rfl rfl rfl rfl (wl_unwanted rfl rfl rfl rfl rfl rfl rfl rfl (wl_unwanted rfl rfl rfl rfl rfl rfl rfl rfl (wl_unwanted rfl rfl rfl rfl rfl rfl rfl rfl (zd rfl (op_pick_t rfl rfl) (wl_nil (st_tn ?_)))))))))))
            exact cut_done1 [2, 4] hK rfl (by first | (rw [decide_eq_decide]; omega) | (symm; rw [decide_eq_false_iff_not]; omega) | (symm; rw [decide_eq_true_iff]; omega) | (simp; done) | (simp; omega) | (simp [*]; done) | (simp [*]; omega)) (by rfl) rfl rfl
          · -- 26 is False
            refine wl_wanted_det rfl rfl rfl rfl rfl rfl rfl (op_fieldAddr (off := 5) rfl tF38_4h) (wl_wanted_det rfl rfl rfl rfl rfl rfl rfl (op_load1 rfl tO3h (Ent.lab (l := 2) rfl (says_cel 5))) (wl_wanted_det rfl rfl rfl rfl rfl rfl rfl (op_move rfl) (wl_wanted_det rfl rfl rfl rfl rfl rfl rfl (op_add' rfl rfl (by omega)) ?_)))
            refine wl_wanted_det rfl rfl rfl rfl rfl rfl rfl (op_fieldAddr (off := 6) rfl tF38_5h) (wl_wanted_det rfl rfl rfl rfl rfl rfl rfl (op_load1 rfl tO36h (Ent.lab (l := 2) rfl (says_cel 6))) (wl_wanted_det rfl rfl rfl rfl rfl rfl rfl (op_lenT rfl tS36h (Sl.ent (by first | exact Sl.app (by assumption) _ | exact Sl.app (Sl.app (by assumption) _) _))) ?_))
            refine wl_wanted_det rfl rfl rfl rfl rfl rfl rfl (op_add' rfl rfl (by omega)) ?_
            refine wl_wanted_det rfl rfl rfl rfl rfl rfl rfl (op_gtr rfl rfl) (zd rfl (op_pick_f rfl rfl) (wl_nil (st_tn ?_)))
            exact cut_done1 [2, 4] hK rfl (by first | (rw [decide_eq_decide]; omega) | (symm; rw [decide_eq_false_iff_not]; omega) | (symm; rw [decide_eq_true_iff]; omega) | (simp; done) | (simp; omega) | (simp [*]; done) | (simp [*]; omega)) (by rfl) rfl rfl
  · -- behind r1
    show W _ _ _ _ _ [(36, _), (1, _), (2, _), (4, _)] [(2, _), (4, _)] _
    refine w_cond_d rfl (fun hc36 => ?_) (fun hc36 => ?_)
    · -- c36.t
      refine w_seq (w_emp 77 (slO_nil 3 1) ?_)
      refine w_region (zd rfl (op_build tB38h rfl rfl) (wl_op0 [4] rfl rfl rfl (op_store rfl rfl tZ38h (by rfl) (by rfl) (by exact Nat.le_of_ble_eq_true rfl)) ?_))
      rintro _ _ ⟨rfl, rfl⟩
      refine za rfl (wl_nil (st_tn (w_ret (st_tr (st_ret (vs := [_, _]) [77] Tryz.results12 ⟨⟨_, rfl, Ent.mono (Ent.lab (l := 4) rfl (says_cel 0)) (fun _ h => run_load_agg tA38h h (Nat.le_of_ble_eq_true rfl))⟩, ⟨rfl, trivial⟩⟩ rfl ?_)))))
      refine ⟨[(lab, _)], rfl, ?_⟩
      unfold shiftR; rw [if_pos hc36]; exact ⟨none, 0, rfl, rfl⟩
    · -- c36.f
      refine w_skip (st_tn (w_seq ?_))
      refine w_drawW (fun β => [⟨38, [], [], [], noW (_), false, [], []⟩, ⟨39, [], [], [], noW (_), false, [], []⟩, ⟨40, [1], [], [], noW (_), false, [], []⟩, ⟨41, [], [], [], noW (_), false, [], []⟩, ⟨42, [2, 3], [], [], noW (_), false, [], []⟩, ⟨43, [], [], [], noW (_), false, [], []⟩, ⟨44, [5], [], [], noW (_), false, [], []⟩, ⟨45, [6], [], [], fun w => DetW _ _, false, [], []⟩]) [] [2, 1] [⟨38, [], [], false, [], []⟩, ⟨39, [], [], false, [], []⟩, ⟨40, [1], [], false, [], []⟩, ⟨41, [], [], false, [], []⟩, ⟨42, [2, 3], [], false, [], []⟩, ⟨43, [], [], false, [], []⟩, ⟨44, [5], [], false, [], []⟩, ⟨45, [6], [], false, [], []⟩] [[], [], [], [], [], [], [], []] [[], [], [], [], [], [], [], []] tMixh (fun _ => by rfl) (fun _ => by rfl) (by kernel_rfl) (by kernel_rfl) (by rfl) (by rfl)
          (fun β => ⟨.p rfl (by intro X; exact op_loadA rfl tA38h (Ent.lab (l := 2) rfl (says_cel 0)) (Nat.le_of_ble_eq_true rfl)),
          ⟨.p rfl (by intro X; exact op_fieldAddr (off := 5) rfl tF38_4h),
          ⟨.p rfl (by intro X; rintro _ _ ⟨rfl, rfl⟩; exact op_load1 rfl tO3h (Ent.lab (l := 2) rfl (says_cel 5))),
          ⟨.p rfl (by intro X; exact op_move rfl),
          ⟨.p rfl (by intro X; rintro _ _ ⟨rfl, rfl⟩ _ _ ⟨rfl, rfl⟩; exact op_add' rfl rfl (by omega)),
          ⟨.p rfl (by intro X; exact op_fieldAddr (off := 6) rfl tF38_5h),
          ⟨.p rfl (by intro X; rintro _ _ ⟨rfl, rfl⟩; exact op_load1 rfl tO36h (Ent.lab (l := 2) rfl (says_cel 6))),
          ⟨.px rfl (by intro X; rintro _ _ ⟨rfl, rfl⟩; refine OpT.mono (op_fn Tryz.func33 rfl rfl rfl (cloneI 45 (by first | exact Sl.app (by assumption) _ | exact Sl.app (Sl.app (by assumption) _) _) (by omega))) ?_; rintro _ _ ⟨a45, c45, rfl, rfl⟩; obtain ⟨w, rfl, rfl⟩ : ∃ w : Wt, w.a = a45 ∧ w.c = c45 := ⟨{ a := a45, c := c45 }, rfl, rfl⟩; exact ⟨w, rfl, rfl⟩),
          trivial⟩⟩⟩⟩⟩⟩⟩⟩)
          (fun β β' => ⟨fun _ => by rfl, ⟨fun _ => by rfl, ⟨fun _ => by rfl, ⟨fun _ => by rfl, ⟨fun _ => by rfl, ⟨fun _ => by rfl, ⟨fun _ => by rfl, ⟨fun _ => by rfl, trivial⟩⟩⟩⟩⟩⟩⟩⟩) ?_
      intro β
      rintro _ _ ⟨rfl, rfl⟩ _ _ ⟨rfl, rfl⟩ _ _ ⟨rfl, rfl⟩ _ _ ⟨rfl, rfl⟩ _ _ ⟨rfl, rfl⟩ _ _ ⟨rfl, rfl⟩ _ _ ⟨rfl, rfl⟩ _ _ ⟨rfl, rfl⟩
      generalize (β 7).a = a45
      generalize (β 7).c = c45
      refine wl_norm (e' := [(4, _), (38, _), (42, _), (45, _)]) (.cons rfl (.cons rfl (.cons rfl (.cons rfl (.nil _))))) (by dsimp only [cond_false, cond_true, List.nil_append, List.cons_append]) ?_
      refine zd rfl (op_fn Tryz.func18 rfl rfl rfl (like_any _ _ _ _ _ _ _ _ _)) (wl_op0 [4] rfl rfl rfl (op_store rfl rfl tZ38h (by rfl) (by rfl) (by exact Nat.le_of_ble_eq_true rfl)) ?_)
      rintro _ _ ⟨rfl, rfl⟩
      refine za rfl (wl_nil (st_tn (w_ret (st_ret (vs := [_, _]) [45] Tryz.results12 ⟨⟨_, rfl, Ent.mono (Ent.lab (l := 4) rfl (says_cel 0)) (fun _ h => run_load_agg tA38h h (Nat.le_of_ble_eq_true rfl))⟩, ⟨rfl, trivial⟩⟩ rfl ?_))))
      refine ⟨[(lab, _)], rfl, ?_⟩
      unfold shiftR; rw [if_neg hc36]; exact ⟨_, _, rfl, rfl⟩
end Go.Proofs.YtecmigildpkigaaGreat.Ser
namespace Go.Proofs.YtecmigildpkigaaGreat.Ser
open Go Go.SL Go.RowKit
set_option linter.unusedVariables false
set_option linter.unusedSimpArgs false
theorem svc_ok (x : Int) : nameP (svcL.getD (x % 4).toNat .empty) := by
  have h : (x % 4).toNat < 4 := by omega
  generalize (x % 4).toNat = n at h
  rcases n with _ | _ | _ | _ | n
  all_goals first | omega | decide +kernel
structure GK (k : SK) : Prop where
  svc : k.svc.size ≤ maxLen
  op : k.op.size ≤ maxLen
  q1 : -9223372036854775808 ≤ k.qn ∧ k.qn ≤ 9223372036854775807
  q2 : -9223372036854775808 ≤ k.qd ∧ k.qd ≤ 9223372036854775807
  met : 1 ≤ k.met ∧ k.met ≤ 3
  n1 : nameP k.svc
  n2 : k.op = ⟨#[]⟩ ∨ nameP k.op
  q : (k.met = 3 → goodB k.qn k.qd) ∧ (k.met ≠ 3 → (k.qn, k.qd) = (0, 0))
theorem name_len {s : ByteArray} (h : nameP s) : s.size ≤ maxLen := by have := h.1.2; unfold maxLen; omega
theorem chk_ok {k : SK} (h : GK k) {fr : Int} {l : List Int} (hl : l.length ≤ 1024) (hv : ∀ x ∈ l, 0 ≤ x ∧ x ≤ 1099511627776) : chkE k fr l = 0 ↔ 0 ≤ fr ∧ fr ≤ 1048576 ∧ fr + l.length ≤ 1048577 := by
  unfold chkE
  have hm := h.met
  rw [if_neg (fun h1 => by rcases h1 with h1 | ⟨h1, h2⟩; (· exact h1 h.n1); (· exact h.n2.elim h1 h2)), if_neg (by omega),
    if_neg (fun h1 => by rcases h1 with ⟨h1, h2⟩ | ⟨h1, h2⟩; (· exact h2 (h.q.1 h1)); (· exact h2 (h.q.2 h1)))]
  by_cases h1 : fr < 0 ∨ fr > 1048576
  · rw [if_pos h1]; constructor <;> intro h2 <;> omega
  · rw [if_neg h1, if_neg (by omega)]
    by_cases h2 : fr + l.length > 1048577
    · rw [if_pos h2]; constructor <;> intro h2 <;> omega
    · rw [if_neg h2, if_neg (fun h3 => by obtain ⟨x, hx, h4⟩ := List.any_eq_true.1 h3; have := hv x hx; have := of_decide_eq_true h4; omega)]
      constructor <;> intro h2 <;> omega
end Go.Proofs.YtecmigildpkigaaGreat.Ser
namespace Go.Proofs.YtecmigildpkigaaGreat.Ser
open Go Go.SL Go.RowKit
set_option linter.unusedVariables false
set_option linter.unusedSimpArgs false
theorem tA38l : aggB Tryz.prog 38 7 = true := by kernel_rfl
theorem tA40l : aggB Tryz.prog 40 2 = true := by kernel_rfl
theorem tB38l : placesB Tryz.prog 38 = some ([(0, 1), (1, 1), (2, 1), (3, 2), (5, 1), (6, 1)], [Value.string .empty, Value.string .empty, Value.int .i64 0, Value.int .i64 0, Value.int .i64 0, Value.int .i64 0, Value.slice none 0 0]) := by kernel_rfl
theorem tB40l : placesB Tryz.prog 40 = some ([(0, 1), (1, 1)], [Value.int .i64 0, Value.int .i64 0]) := by kernel_rfl
theorem tF38_4l : fieldB Tryz.prog 38 4 5 = true := by kernel_rfl
theorem tF38_5l : fieldB Tryz.prog 38 5 6 = true := by kernel_rfl
theorem tF40_0l : fieldB Tryz.prog 40 0 0 = true := by kernel_rfl
theorem tF40_1l : fieldB Tryz.prog 40 1 1 = true := by kernel_rfl
theorem tMixl : Tryz.prog.follows .mixedOrders = true := by kernel_rfl
theorem tN38l : (Tryz.prog.info? 38).bind (·.zero) = some (Value.agg #[Value.string .empty, Value.string .empty, Value.int .i64 0, Value.int .i64 0, Value.int .i64 0, Value.int .i64 0, Value.slice none 0 0]) := by kernel_rfl
theorem tN40l : (Tryz.prog.info? 40).bind (·.zero) = some (Value.agg #[Value.int .i64 0, Value.int .i64 0]) := by kernel_rfl
theorem tO3l : oneB Tryz.prog 3 = true := by kernel_rfl
theorem tO36l : oneB Tryz.prog 36 = true := by kernel_rfl
theorem tS36l : sliceB Tryz.prog 36 3 1 = true := by kernel_rfl
theorem tZ38l : (Tryz.prog.info? 38).map (·.size) = some 7 := by kernel_rfl
theorem tZ40l : (Tryz.prog.info? 40).map (·.size) = some 2 := by kernel_rfl
set_option maxHeartbeats 400000 in
set_option maxRecDepth 100000 in
theorem slots_any {σ : World} {F : List Res} {a : Option Addr} {c : Nat} {l : List Int} (k : SK) (fr : Int) (h : Sl σ F encZ 1 (.slice a l.length c) l) (hl : l.length ≤ 1048576) (hf : -1099511627776 ≤ fr ∧ fr ≤ 1099511627776) :
    FnT Tryz.prog σ F 31 [sr k fr (.slice a l.length c)] [] (fun u ρ => u = .agg #[.int .i64 fr, .int .i64 (fr + l.length)] ∧ ρ = []) := by
  refine fn_of 12 Tryz.func31 rfl Tryz.ntmps31 rfl ?_
  refine w_seq (w_region (wl_op [] rfl rfl rfl rfl (op_box (T := 38) (l := 1) rfl) ?_))
  rintro _ _ ⟨b1, rfl, rfl⟩
  refine wl_op [] rfl rfl rfl rfl (op_alloc (l := 2) tN40l) ?_
  rintro _ _ ⟨b2, rfl, rfl⟩
  refine wl_nil (st_tn (w_seq (w_region (zd rfl (op_fieldAddr (off := 5) rfl tF38_4l) (zd rfl (op_load1 rfl tO3l (Ent.lab (l := 1) rfl (says_cel 5))) (zd rfl (op_fieldAddr (off := 5) rfl tF38_4l) (zd rfl (op_load1 rfl tO3l (Ent.lab (l := 1) rfl (says_cel 5))) (zd rfl (op_fieldAddr (off := 6) rfl tF38_5l) (zd rfl (op_load1 rfl tO36l (Ent.lab (l := 1) rfl (says_cel 6))) (zd rfl (op_lenT rfl tS36l (Sl.ent (by first | exact Sl.app (by assumption) _ | exact Sl.app (Sl.app (by assumption) _) _))) ?_))))))))))
  refine zd rfl (op_add' rfl rfl (by omega)) ?_
  refine zd rfl (op_build tB40l rfl rfl) (wl_op0 [2] rfl rfl rfl (op_store rfl rfl tZ40l (by rfl) (by rfl) (by exact Nat.le_of_ble_eq_true rfl)) ?_)
  rintro _ _ ⟨rfl, rfl⟩
  refine wl_nil (st_tn (w_ret (st_ret (vs := [_]) [] Tryz.results31 ⟨⟨_, rfl, Ent.mono (Ent.lab (l := 2) rfl (says_cel 0)) (fun _ h => run_load_agg tA40l h (Nat.le_of_ble_eq_true rfl))⟩, trivial⟩ rfl ?_)))
  refine ⟨_, rfl, ?_⟩
  exact ⟨rfl, rfl⟩
def atV (l : List Int) (fr x : Int) : Int := if fr ≤ x ∧ x < fr + l.length then l.getD (x - fr).toNat 0 else 0
set_option maxHeartbeats 400000 in
set_option maxRecDepth 100000 in
theorem at_any {σ : World} {F : List Res} {a : Option Addr} {c : Nat} {l : List Int} (k : SK) (fr x : Int) (h : Sl σ F encZ 1 (.slice a l.length c) l) (hl : l.length ≤ 1048576) (hf : -1099511627776 ≤ fr ∧ fr ≤ 1099511627776) (hx : -9223372036854775808 ≤ x ∧ x ≤ 9223372036854775807) :
    FnT Tryz.prog σ F 29 [sr k fr (.slice a l.length c), .int .i64 x] [] (fun u ρ => u = .tuple #[.int .i64 (atV l fr x), .bool (decide (fr ≤ x ∧ x < fr + l.length))] ∧ ρ = []) := by
  refine fn_of 28 Tryz.func29 rfl Tryz.ntmps29 rfl ?_
  have hle := h.i64
  refine w_seq (w_region (wl_op [] rfl rfl rfl rfl (op_box (T := 38) (l := 2) rfl) ?_))
  rintro _ _ ⟨b2, rfl, rfl⟩
  refine za rfl (za rfl (wl_nil (st_tn (w_seq (w_seq (w_cutL [(19, .bool (decide (¬ (fr ≤ x ∧ x < fr + l.length))))] [1, 2] [2] rfl (fun K' hK => ?_) ?_))))))
  · -- cut r1
    refine w_region (zm rfl (zd rfl (op_fieldAddr (off := 5) rfl tF38_4l) (zd rfl (op_load1 rfl tO3l (Ent.lab (l := 2) rfl (says_cel 5))) (zd rfl (op_lss rfl rfl) (zm rfl (wl_gsplit (t := 10) rfl (fun hg10 => ?_) (fun hg10 => ?_)))))))
    · -- 10 is True
      refine wl_unwanted rfl rfl rfl rfl rfl rfl rfl rfl (wl_unwanted rfl rfl rfl rfl rfl rfl rfl rfl (wl_unwanted rfl rfl rfl rfl rfl rfl rfl rfl (wl_unwanted rfl rfl rfl rfl rfl rfl rfl rfl (wl_unwanted rfl rfl rfl rfl rfl rfl rfl rfl (wl_unwanted rfl rfl rfl rfl rfl rfl rfl rfl (wl_unwanted rfl rfl rfl rfl rfl rfl rfl rfl (wl_unwanted rfl rfl rfl rfl rfl rfl rfl rfl (zd rfl (op_pick_t rfl rfl) (wl_nil (st_tn ?_))))))))))
      exact cut_done1 [2] hK rfl (by first | (rw [decide_eq_decide]; omega) | (symm; rw [decide_eq_false_iff_not]; omega) | (symm; rw [decide_eq_true_iff]; omega) | (simp; done) | (simp; omega) | (simp [*]; done) | (simp [*]; omega)) (by rfl) rfl rfl
    · -- 10 is False
      refine wl_wanted_det rfl rfl rfl rfl rfl rfl rfl (op_move rfl) (wl_wanted_det rfl rfl rfl rfl rfl rfl rfl (op_fieldAddr (off := 5) rfl tF38_4l) (wl_wanted_det rfl rfl rfl rfl rfl rfl rfl (op_load1 rfl tO3l (Ent.lab (l := 2) rfl (says_cel 5))) (wl_wanted_det rfl rfl rfl rfl rfl rfl rfl (op_fieldAddr (off := 6) rfl tF38_5l) (wl_wanted_det rfl rfl rfl rfl rfl rfl rfl (op_load1 rfl tO36l (Ent.lab (l := 2) rfl (says_cel 6))) (wl_wanted_det rfl rfl rfl rfl rfl rfl rfl (op_lenT rfl tS36l (Sl.ent (by first | exact Sl.app (by assumption) _ | exact Sl.app (Sl.app (by assumption) _) _))) ?_)))))
      refine wl_wanted_det rfl rfl rfl rfl rfl rfl rfl (op_add' rfl rfl (by omega)) ?_
      refine wl_wanted_det rfl rfl rfl rfl rfl rfl rfl (op_geq rfl rfl) (zd rfl (op_pick_f rfl rfl) (wl_nil (st_tn ?_)))
      exact cut_done1 [2] hK rfl (by first | (rw [decide_eq_decide]; omega) | (symm; rw [decide_eq_false_iff_not]; omega) | (symm; rw [decide_eq_true_iff]; omega) | (simp; done) | (simp; omega) | (simp [*]; done) | (simp [*]; omega)) (by rfl) rfl rfl
  · -- behind r1
    show W _ _ _ _ _ [(19, _), (1, _), (2, _)] [(2, _)] _
    refine w_cond_d rfl (fun hc19 => ?_) (fun hc19 => ?_)
    · -- c19.t
      refine w_seq (w_region (za rfl (za rfl (wl_nil (st_tn (w_ret (st_tr (st_ret (vs := [_, _]) [] Tryz.results29 ⟨rfl, ⟨rfl, trivial⟩⟩ rfl ?_))))))))
      refine ⟨_, rfl, ?_⟩
      unfold atV; rw [if_neg hc19, decide_eq_false hc19]; exact ⟨rfl, rfl⟩
    · -- c19.f
      have hin : fr ≤ x ∧ x < fr + l.length := Classical.byContradiction hc19
      obtain ⟨y, hy⟩ := getE (l := l) (i := (x - fr).toNat) (by omega)
      refine w_skip (st_tn (w_seq (w_region (zd rfl (op_fieldAddr (off := 6) rfl tF38_5l) (zd rfl (op_load1 rfl tO36l (Ent.lab (l := 2) rfl (says_cel 6))) (zm rfl (zd rfl (op_fieldAddr (off := 5) rfl tF38_4l) (zd rfl (op_load1 rfl tO3l (Ent.lab (l := 2) rfl (says_cel 5))) (zd rfl (op_sub' rfl rfl (by omega)) ?_)))))))))
      refine zd rfl (op_idxZ rfl rfl tS36l (Sl.ent (by first | exact Sl.app (by assumption) _ | exact Sl.app (Sl.app (by assumption) _) _)) (by omega) (by omega)) ?_
      refine zd rfl (op_ldx rfl tO3l (by first | exact Sl.app (by assumption) _ | exact Sl.app (Sl.app (by assumption) _) _) (by assumption) (by rfl)) ?_
      refine za rfl (za rfl (wl_nil (st_tn (w_ret (st_ret (vs := [_, _]) [] Tryz.results29 ⟨rfl, ⟨rfl, trivial⟩⟩ rfl ?_)))))
      refine ⟨_, rfl, ?_⟩
      unfold atV; rw [if_pos hin, decide_eq_true hin, List.getD_eq_getElem?_getD, hy]; exact ⟨rfl, rfl⟩
theorem Sl.sub2 {σ : World} {F : List Res} {α : Type} {enc : α → List Value} {k : Nat} {a : Option Addr} {m c : Nat} {l : List α} (h : Sl σ F enc k (.slice a m c) l) {lo hi : Nat} (h1 : lo ≤ hi) (h2 : hi ≤ l.length) :
    Sl σ F enc k (.slice (SL.sub a c lo k) ((l.take hi).drop lo).length (c - lo)) ((l.take hi).drop lo) := by
  have := Sl.sub h h1 h2
  rwa [show ((l.take hi).drop lo).length = hi - lo by rw [List.length_drop, List.length_take]; omega]
def winF (fr : Int) (l : List Int) (p q : Int) : Int := if max fr p ≥ min (fr + l.length) q then fr else max fr p
def winL (fr : Int) (l : List Int) (p q : Int) : List Int := if max fr p ≥ min (fr + l.length) q then [] else (l.take (min (fr + l.length) q - fr).toNat).drop (max fr p - fr).toNat
set_option maxHeartbeats 1000000 in
set_option maxRecDepth 100000 in
theorem window_any {σ : World} {F : List Res} {a : Option Addr} {c : Nat} {l : List Int} (lab : Nat) (k : SK) (fr p q : Int) (h : Sl σ F encZ 1 (.slice a l.length c) l) (hl : l.length ≤ 1048576) (hf : -1099511627776 ≤ fr ∧ fr ≤ 1099511627776) (hp : -9223372036854775808 ≤ p ∧ p ≤ 9223372036854775807) (hq : -9223372036854775808 ≤ q ∧ q ≤ 9223372036854775807) :
    FnT Tryz.prog σ F 11 [sr k fr (.slice a l.length c), .agg #[.int .i64 p, .int .i64 q]] [] (fun u ρ => ∃ m a c, m = winL fr l p q ∧ u = sr k (winF fr l p q) (.slice a m.length c) ∧ ρ = [(lab, slW 3 encZ 1 (.slice a m.length c) m)]) := by
  refine fn_of 43 Tryz.func11 rfl Tryz.ntmps11 rfl ?_
  have hle := h.i64
  refine w_seq (w_region (wl_op [] rfl rfl rfl rfl (op_box (T := 38) (l := 2) rfl) ?_))
  rintro _ _ ⟨b2, rfl, rfl⟩
  refine wl_op [] rfl rfl rfl rfl (op_box (T := 40) (l := 3) rfl) ?_
  rintro _ _ ⟨b3, rfl, rfl⟩
  refine wl_op [] rfl rfl rfl rfl (op_alloc (l := 4) tN38l) ?_
  rintro _ _ ⟨b4, rfl, rfl⟩
  refine wl_nil (st_tn (w_seq ?_))
  refine w_drawW (fun β => [⟨7, [], [], [], noW (_), false, [], []⟩, ⟨8, [0], [], [], noW (_), false, [], []⟩, ⟨9, [], [], [], noW (_), false, [], []⟩, ⟨10, [2], [], [], noW (_), false, [], []⟩, ⟨11, [1, 3], [], [], noW (_), false, [], []⟩, ⟨12, [], [], [], noW (_), false, [], []⟩, ⟨13, [5], [], [], noW (_), false, [], []⟩, ⟨14, [], [], [], noW (_), false, [], []⟩, ⟨15, [7], [], [], noW (_), false, [], []⟩, ⟨16, [8], [], [], noW (_), false, [], []⟩, ⟨17, [6, 9], [], [], noW (_), false, [], []⟩, ⟨18, [], [], [], noW (_), false, [], []⟩, ⟨19, [11], [], [], noW (_), false, [], []⟩, ⟨20, [10, 12], [], [], noW (_), false, [], []⟩, ⟨5, [4], [], [], noW (_), false, [], []⟩]) [] [2, 3] [⟨7, [], [], false, [], []⟩, ⟨8, [0], [], false, [], []⟩, ⟨9, [], [], false, [], []⟩, ⟨10, [2], [], false, [], []⟩, ⟨11, [1, 3], [], false, [], []⟩, ⟨12, [], [], false, [], []⟩, ⟨13, [5], [], false, [], []⟩, ⟨14, [], [], false, [], []⟩, ⟨15, [7], [], false, [], []⟩, ⟨16, [8], [], false, [], []⟩, ⟨17, [6, 9], [], false, [], []⟩, ⟨18, [], [], false, [], []⟩, ⟨19, [11], [], false, [], []⟩, ⟨20, [10, 12], [], false, [], []⟩, ⟨5, [4], [], false, [], []⟩] [[], [], [], [], [], [], [], [], [], [], [], [], [], [], []] [[], [], [], [], [], [], [], [], [], [], [], [], [], [], []] tMixl (fun _ => by rfl) (fun _ => by rfl) (by kernel_rfl) (by kernel_rfl) (by rfl) (by rfl)
      (fun β => ⟨.p rfl (by intro X; exact op_fieldAddr (off := 5) rfl tF38_4l),
      ⟨.p rfl (by intro X; rintro _ _ ⟨rfl, rfl⟩; exact op_load1 rfl tO3l (Ent.lab (l := 2) rfl (says_cel 5))),
      ⟨.p rfl (by intro X; exact op_fieldAddr (off := 0) rfl tF40_0l),
      ⟨.p rfl (by intro X; rintro _ _ ⟨rfl, rfl⟩; exact op_load1 rfl tO3l (Ent.lab (l := 3) rfl (says_cel 0))),
      ⟨.p rfl (by intro X; rintro _ _ ⟨rfl, rfl⟩ _ _ ⟨rfl, rfl⟩; exact op_max rfl rfl),
      ⟨.p rfl (by intro X; exact op_fieldAddr (off := 5) rfl tF38_4l),
      ⟨.p rfl (by intro X; rintro _ _ ⟨rfl, rfl⟩; exact op_load1 rfl tO3l (Ent.lab (l := 2) rfl (says_cel 5))),
      ⟨.p rfl (by intro X; exact op_fieldAddr (off := 6) rfl tF38_5l),
      ⟨.p rfl (by intro X; rintro _ _ ⟨rfl, rfl⟩; exact op_load1 rfl tO36l (Ent.lab (l := 2) rfl (says_cel 6))),
      ⟨.p rfl (by intro X; rintro _ _ ⟨rfl, rfl⟩; exact op_lenT rfl tS36l (Sl.ent (by first | exact Sl.app (by assumption) _ | exact Sl.app (Sl.app (by assumption) _) _))),
      ⟨.p rfl (by intro X; rintro _ _ ⟨rfl, rfl⟩ _ _ ⟨rfl, rfl⟩; exact op_add' rfl rfl (by omega)),
      ⟨.p rfl (by intro X; exact op_fieldAddr (off := 1) rfl tF40_1l),
      ⟨.p rfl (by intro X; rintro _ _ ⟨rfl, rfl⟩; exact op_load1 rfl tO3l (Ent.lab (l := 3) rfl (says_cel 1))),
      ⟨.p rfl (by intro X; rintro _ _ ⟨rfl, rfl⟩ _ _ ⟨rfl, rfl⟩; exact op_min rfl rfl),
      ⟨.p rfl (by intro X; rintro _ _ ⟨rfl, rfl⟩; exact op_assign rfl),
      trivial⟩⟩⟩⟩⟩⟩⟩⟩⟩⟩⟩⟩⟩⟩⟩)
      (fun β β' => ⟨fun _ => by rfl, ⟨fun _ => by rfl, ⟨fun _ => by rfl, ⟨fun _ => by rfl, ⟨fun _ => by rfl, ⟨fun _ => by rfl, ⟨fun _ => by rfl, ⟨fun _ => by rfl, ⟨fun _ => by rfl, ⟨fun _ => by rfl, ⟨fun _ => by rfl, ⟨fun _ => by rfl, ⟨fun _ => by rfl, ⟨fun _ => by rfl, ⟨fun _ => by rfl, trivial⟩⟩⟩⟩⟩⟩⟩⟩⟩⟩⟩⟩⟩⟩⟩) ?_
  intro β
  rintro _ _ ⟨rfl, rfl⟩ _ _ ⟨rfl, rfl⟩ _ _ ⟨rfl, rfl⟩ _ _ ⟨rfl, rfl⟩ _ _ ⟨rfl, rfl⟩ _ _ ⟨rfl, rfl⟩ _ _ ⟨rfl, rfl⟩ _ _ ⟨rfl, rfl⟩ _ _ ⟨rfl, rfl⟩ _ _ ⟨rfl, rfl⟩ _ _ ⟨rfl, rfl⟩ _ _ ⟨rfl, rfl⟩ _ _ ⟨rfl, rfl⟩ _ _ ⟨rfl, rfl⟩ _ _ ⟨rfl, rfl⟩
  refine wl_norm (e' := [(2, _), (4, _), (5, _), (20, _)]) (.cons rfl (.cons rfl (.cons rfl (.cons rfl (.nil _))))) (by dsimp only [cond_false, cond_true, List.nil_append, List.cons_append]) ?_
  refine za rfl (wl_nil (st_tn (w_seq (w_seq (w_region (zm rfl (zm rfl (zd rfl (op_geq rfl rfl) (wl_nil (st_tn (w_cond_d rfl (fun hc23 => ?_) (fun hc23 => ?_))))))))))))
  · -- c23.t
    refine w_seq (w_emp 77 (slO_nil 3 1) ?_)
    refine w_region (zd rfl (op_loadA rfl tA38l (Ent.lab (l := 2) rfl (says_cel 0)) (Nat.le_of_ble_eq_true rfl)) (zd rfl (op_fieldAddr (off := 5) rfl tF38_4l) (zd rfl (op_load1 rfl tO3l (Ent.lab (l := 2) rfl (says_cel 5))) (zd rfl (op_fn Tryz.func18 rfl rfl rfl (like_any k fr fr a none l.length c 0 0)) (wl_op0 [4] rfl rfl rfl (op_store rfl rfl tZ38l (by rfl) (by rfl) (by exact Nat.le_of_ble_eq_true rfl)) ?_)))))
    rintro _ _ ⟨rfl, rfl⟩
    refine wl_nil (st_tn (w_ret (st_tr (st_ret (vs := [_]) [77] Tryz.results11 ⟨⟨_, rfl, Ent.mono (Ent.lab (l := 4) rfl (says_cel 0)) (fun _ h => run_load_agg tA38l h (Nat.le_of_ble_eq_true rfl))⟩, trivial⟩ rfl ?_))))
    refine ⟨[(lab, _)], rfl, ?_⟩
    exact ⟨[], none, 0, by unfold winL; rw [if_pos hc23], by unfold winF; rw [if_pos hc23]; rfl, rfl⟩
  · -- c23.f
    have hlo : (max fr p - fr).toNat ≤ (min (fr + l.length) q - fr).toNat := by omega
    have hhi : (min (fr + l.length) q - fr).toNat ≤ l.length := by omega
    refine w_skip (st_tn (w_seq ?_))
    refine w_drawW (fun β => [⟨28, [], [], [], noW (_), false, [], []⟩, ⟨29, [], [], [], noW (_), false, [], []⟩, ⟨30, [], [], [], noW (_), false, [], []⟩, ⟨31, [2], [], [], noW (_), false, [], []⟩, ⟨32, [], [], [], noW (_), false, [], []⟩, ⟨33, [], [], [], noW (_), false, [], []⟩, ⟨34, [5], [], [], noW (_), false, [], []⟩, ⟨35, [4, 6], [], [], noW (_), false, [], []⟩, ⟨36, [], [], [], noW (_), false, [], []⟩, ⟨37, [], [], [], noW (_), false, [], []⟩, ⟨38, [9], [], [], noW (_), false, [], []⟩, ⟨39, [8, 10], [], [], noW (_), false, [], []⟩, ⟨40, [3, 7, 11], [], [], noW (_), false, [], []⟩, ⟨41, [12], [], [], fun w => DetW _ _, false, [], []⟩]) [] [2, 5, 6] [⟨28, [], [], false, [], []⟩, ⟨29, [], [], false, [], []⟩, ⟨30, [], [], false, [], []⟩, ⟨31, [2], [], false, [], []⟩, ⟨32, [], [], false, [], []⟩, ⟨33, [], [], false, [], []⟩, ⟨34, [5], [], false, [], []⟩, ⟨35, [4, 6], [], false, [], []⟩, ⟨36, [], [], false, [], []⟩, ⟨37, [], [], false, [], []⟩, ⟨38, [9], [], false, [], []⟩, ⟨39, [8, 10], [], false, [], []⟩, ⟨40, [3, 7, 11], [], false, [], []⟩, ⟨41, [12], [], false, [], []⟩] [[], [], [], [], [], [], [], [], [], [], [], [], [], []] [[], [], [], [], [], [], [], [], [], [], [], [], [], []] tMixl (fun _ => by rfl) (fun _ => by rfl) (by kernel_rfl) (by kernel_rfl) (by rfl) (by rfl)
        (fun β => ⟨.p rfl (by intro X; exact op_loadA rfl tA38l (Ent.lab (l := 2) rfl (says_cel 0)) (Nat.le_of_ble_eq_true rfl)),
        ⟨.p rfl (by intro X; exact op_move rfl),
        ⟨.p rfl (by intro X; exact op_fieldAddr (off := 6) rfl tF38_5l),
        ⟨.p rfl (by intro X; rintro _ _ ⟨rfl, rfl⟩; exact op_load1 rfl tO36l (Ent.lab (l := 2) rfl (says_cel 6))),
        ⟨.p rfl (by intro X; exact op_move rfl),
        ⟨.p rfl (by intro X; exact op_fieldAddr (off := 5) rfl tF38_4l),
        ⟨.p rfl (by intro X; rintro _ _ ⟨rfl, rfl⟩; exact op_load1 rfl tO3l (Ent.lab (l := 2) rfl (says_cel 5))),
        ⟨.p rfl (by intro X; rintro _ _ ⟨rfl, rfl⟩ _ _ ⟨rfl, rfl⟩; exact op_val (v' := .int .i64 ((max fr p - fr).toNat : Int)) (by congr 1; omega) (op_sub' rfl rfl (by omega))),
        ⟨.p rfl (by intro X; exact op_move rfl),
        ⟨.p rfl (by intro X; exact op_fieldAddr (off := 5) rfl tF38_4l),
        ⟨.p rfl (by intro X; rintro _ _ ⟨rfl, rfl⟩; exact op_load1 rfl tO3l (Ent.lab (l := 2) rfl (says_cel 5))),
        ⟨.p rfl (by intro X; rintro _ _ ⟨rfl, rfl⟩ _ _ ⟨rfl, rfl⟩; exact op_val (v' := .int .i64 ((min (fr + l.length) q - fr).toNat : Int)) (by congr 1; omega) (op_sub' rfl rfl (by omega))),
        ⟨.p rfl (by intro X; rintro _ _ ⟨rfl, rfl⟩ _ _ ⟨rfl, rfl⟩ _ _ ⟨rfl, rfl⟩; exact op_val (v' := .slice (SL.sub a c (max fr p - fr).toNat 1) ((l.take (min (fr + l.length) q - fr).toNat).drop (max fr p - fr).toNat).length (c - (max fr p - fr).toNat)) (by congr 1; rw [List.length_drop, List.length_take]; omega) (op_slice rfl rfl rfl tS36l (by first | exact Sl.app (by assumption) _ | exact Sl.app (Sl.app (by assumption) _) _) (by omega) (by omega))),
        ⟨.px rfl (by intro X; rintro _ _ ⟨rfl, rfl⟩; refine OpT.mono (op_fn Tryz.func33 rfl rfl rfl (cloneI 41 (Sl.sub2 (Sl.app (Sl.app h X) _) hlo hhi) (by rw [List.length_drop, List.length_take]; omega))) ?_; rintro _ _ ⟨a41, c41, rfl, rfl⟩; obtain ⟨w, rfl, rfl⟩ : ∃ w : Wt, w.a = a41 ∧ w.c = c41 := ⟨{ a := a41, c := c41 }, rfl, rfl⟩; exact ⟨w, rfl, rfl⟩),
        trivial⟩⟩⟩⟩⟩⟩⟩⟩⟩⟩⟩⟩⟩⟩)
        (fun β β' => ⟨fun _ => by rfl, ⟨fun _ => by rfl, ⟨fun _ => by rfl, ⟨fun _ => by rfl, ⟨fun _ => by rfl, ⟨fun _ => by rfl, ⟨fun _ => by rfl, ⟨fun _ => by rfl, ⟨fun _ => by rfl, ⟨fun _ => by rfl, ⟨fun _ => by rfl, ⟨fun _ => by rfl, ⟨fun _ => by rfl, ⟨fun _ => by rfl, trivial⟩⟩⟩⟩⟩⟩⟩⟩⟩⟩⟩⟩⟩⟩) ?_
    intro β
    rintro _ _ ⟨rfl, rfl⟩ _ _ ⟨rfl, rfl⟩ _ _ ⟨rfl, rfl⟩ _ _ ⟨rfl, rfl⟩ _ _ ⟨rfl, rfl⟩ _ _ ⟨rfl, rfl⟩ _ _ ⟨rfl, rfl⟩ _ _ ⟨rfl, rfl⟩ _ _ ⟨rfl, rfl⟩ _ _ ⟨rfl, rfl⟩ _ _ ⟨rfl, rfl⟩ _ _ ⟨rfl, rfl⟩ _ _ ⟨rfl, rfl⟩ _ _ ⟨rfl, rfl⟩
    generalize (β 13).a = a41
    generalize (β 13).c = c41
    refine wl_norm (e' := [(4, _), (28, _), (29, _), (41, _)]) (.cons rfl (.cons rfl (.cons rfl (.cons rfl (.nil _))))) (by dsimp only [cond_false, cond_true, List.nil_append, List.cons_append]) ?_
    refine zd rfl (op_fn Tryz.func18 rfl rfl rfl (like_any _ _ _ _ _ _ _ _ _)) (wl_op0 [4] rfl rfl rfl (op_store rfl rfl tZ38l (by rfl) (by rfl) (by exact Nat.le_of_ble_eq_true rfl)) ?_)
    rintro _ _ ⟨rfl, rfl⟩
    refine wl_nil (st_tn (w_ret (st_ret (vs := [_]) [41] Tryz.results11 ⟨⟨_, rfl, Ent.mono (Ent.lab (l := 4) rfl (says_cel 0)) (fun _ h => run_load_agg tA38l h (Nat.le_of_ble_eq_true rfl))⟩, trivial⟩ rfl ?_)))
    refine ⟨[(lab, _)], rfl, ?_⟩
    exact ⟨_, _, _, by unfold winL; rw [if_neg hc23], by unfold winF; rw [if_neg hc23]; rfl, rfl⟩
set_option maxHeartbeats 400000 in
set_option maxRecDepth 100000 in
theorem copied_any {σ : World} {F : List Res} {a : Option Addr} {c : Nat} {l : List Int} (lab : Nat) (k : SK) (fr : Int) (h : Sl σ F encZ 1 (.slice a l.length c) l) (hl : l.length ≤ 1048576) :
    FnT Tryz.prog σ F 50 [sr k fr (.slice a l.length c)] [] (fun u ρ => ∃ a c, u = sr k fr (.slice a l.length c) ∧ ρ = [(lab, slW 3 encZ 1 (.slice a l.length c) l)]) := by
  refine fn_of 10 Tryz.func50 rfl Tryz.ntmps50 rfl ?_
  have hle := h.i64
  refine w_seq (w_region (wl_op [] rfl rfl rfl rfl (op_box (T := 38) (l := 1) rfl) ?_))
  rintro _ _ ⟨b1, rfl, rfl⟩
  refine wl_op [] rfl rfl rfl rfl (op_alloc (l := 2) tN38l) ?_
  rintro _ _ ⟨b2, rfl, rfl⟩
  refine wl_nil (st_tn (w_seq ?_))
  refine w_drawW (fun β => [⟨3, [], [], [], noW (_), false, [], []⟩, ⟨4, [], [], [], noW (_), false, [], []⟩, ⟨5, [1], [], [], noW (_), false, [], []⟩, ⟨6, [], [], [], noW (_), false, [], []⟩, ⟨7, [3], [], [], noW (_), false, [], []⟩, ⟨8, [4], [], [], fun w => DetW _ _, false, [], []⟩]) [] [1] [⟨3, [], [], false, [], []⟩, ⟨4, [], [], false, [], []⟩, ⟨5, [1], [], false, [], []⟩, ⟨6, [], [], false, [], []⟩, ⟨7, [3], [], false, [], []⟩, ⟨8, [4], [], false, [], []⟩] [[], [], [], [], [], []] [[], [], [], [], [], []] tMixl (fun _ => by rfl) (fun _ => by rfl) (by kernel_rfl) (by kernel_rfl) (by rfl) (by rfl)
      (fun β => ⟨.p rfl (by intro X; exact op_loadA rfl tA38l (Ent.lab (l := 1) rfl (says_cel 0)) (Nat.le_of_ble_eq_true rfl)),
      ⟨.p rfl (by intro X; exact op_fieldAddr (off := 5) rfl tF38_4l),
      ⟨.p rfl (by intro X; rintro _ _ ⟨rfl, rfl⟩; exact op_load1 rfl tO3l (Ent.lab (l := 1) rfl (says_cel 5))),
      ⟨.p rfl (by intro X; exact op_fieldAddr (off := 6) rfl tF38_5l),
      ⟨.p rfl (by intro X; rintro _ _ ⟨rfl, rfl⟩; exact op_load1 rfl tO36l (Ent.lab (l := 1) rfl (says_cel 6))),
      ⟨.px rfl (by intro X; rintro _ _ ⟨rfl, rfl⟩; refine OpT.mono (op_fn Tryz.func33 rfl rfl rfl (cloneI 8 (by first | exact Sl.app (by assumption) _ | exact Sl.app (Sl.app (by assumption) _) _) (by omega))) ?_; rintro _ _ ⟨a8, c8, rfl, rfl⟩; obtain ⟨w, rfl, rfl⟩ : ∃ w : Wt, w.a = a8 ∧ w.c = c8 := ⟨{ a := a8, c := c8 }, rfl, rfl⟩; exact ⟨w, rfl, rfl⟩),
      trivial⟩⟩⟩⟩⟩⟩)
      (fun β β' => ⟨fun _ => by rfl, ⟨fun _ => by rfl, ⟨fun _ => by rfl, ⟨fun _ => by rfl, ⟨fun _ => by rfl, ⟨fun _ => by rfl, trivial⟩⟩⟩⟩⟩⟩) ?_
  intro β
  rintro _ _ ⟨rfl, rfl⟩ _ _ ⟨rfl, rfl⟩ _ _ ⟨rfl, rfl⟩ _ _ ⟨rfl, rfl⟩ _ _ ⟨rfl, rfl⟩ _ _ ⟨rfl, rfl⟩
  generalize (β 5).a = a8
  generalize (β 5).c = c8
  refine wl_norm (e' := [(2, _), (3, _), (5, _), (8, _)]) (.cons rfl (.cons rfl (.cons rfl (.cons rfl (.nil _))))) (by dsimp only [cond_false, cond_true, List.nil_append, List.cons_append]) ?_
  refine zd rfl (op_fn Tryz.func18 rfl rfl rfl (like_any _ _ _ _ _ _ _ _ _)) (wl_op0 [2] rfl rfl rfl (op_store rfl rfl tZ38l (by rfl) (by rfl) (by exact Nat.le_of_ble_eq_true rfl)) ?_)
  rintro _ _ ⟨rfl, rfl⟩
  refine wl_nil (st_tn (w_ret (st_ret (vs := [_]) [8] Tryz.results50 ⟨⟨_, rfl, Ent.mono (Ent.lab (l := 2) rfl (says_cel 0)) (fun _ h => run_load_agg tA38l h (Nat.le_of_ble_eq_true rfl))⟩, trivial⟩ rfl ?_)))
  refine ⟨[(lab, _)], rfl, ?_⟩
  exact ⟨_, _, rfl, rfl⟩
def oneR (k : SK) (fr : Int) (l : List Int) (k' : SK) (fr' : Int) (m : List Int) : R × Bool := if m.length = 0 then (⟨k, fr, l, 0⟩, true) else if l.length = 0 then (⟨k', fr', m, 0⟩, true) else (zeroR 0, false)
set_option maxHeartbeats 1000000 in
set_option maxRecDepth 100000 in
theorem one_any {σ : World} {F : List Res} {a b : Option Addr} {c d : Nat} {l m : List Int} (lab : Nat) (k : SK) (fr : Int) (k' : SK) (fr' : Int) (h : Sl σ F encZ 1 (.slice a l.length c) l) (g : Sl σ F encZ 1 (.slice b m.length d) m) (hl : l.length ≤ 1048576) (hm : m.length ≤ 1048576) :
    FnT Tryz.prog σ F 26 [sr k fr (.slice a l.length c), sr k' fr' (.slice b m.length d)] [] (fun u ρ => ∃ r o a c, (r, o) = oneR k fr l k' fr' m ∧ u = .tuple #[sr r.k r.fr (.slice a r.vals.length c), .bool o] ∧ ρ = [(lab, slW 3 encZ 1 (.slice a r.vals.length c) r.vals)]) := by
  refine fn_of 21 Tryz.func26 rfl Tryz.ntmps26 rfl ?_
  have hle := h.i64
  have gle := g.i64
  refine w_seq (w_region (wl_op [] rfl rfl rfl rfl (op_box (T := 38) (l := 2) rfl) ?_))
  rintro _ _ ⟨b2, rfl, rfl⟩
  refine wl_op [] rfl rfl rfl rfl (op_box (T := 38) (l := 3) rfl) ?_
  rintro _ _ ⟨b3, rfl, rfl⟩
  refine wl_op [] rfl rfl rfl rfl (op_alloc (l := 4) tN38l) ?_
  rintro _ _ ⟨b4, rfl, rfl⟩
  refine za rfl (wl_nil (st_tn (w_seq (w_block (w_seq (w_region (zd rfl (op_fieldAddr (off := 6) rfl tF38_5l) (zd rfl (op_load1 rfl tO36l (Ent.lab (l := 3) rfl (says_cel 6))) (zd rfl (op_lenT rfl tS36l (Sl.ent (by first | exact Sl.app (by assumption) _ | exact Sl.app (Sl.app (by assumption) _) _))) ?_)))))))))
  refine zd rfl (op_eql rfl rfl) (za rfl (wl_nil (st_tn (w_cond_d rfl (fun hc6 => ?_) (fun hc6 => ?_)))))
  · -- c6.t
    refine w_seq (w_region (zd rfl (op_loadA rfl tA38l (Ent.lab (l := 2) rfl (says_cel 0)) (Nat.le_of_ble_eq_true rfl)) (wl_op [] rfl rfl rfl rfl (op_fn Tryz.func50 rfl rfl rfl (copied_any 12 _ _ (Sl.app h _) (by omega))) ?_)))
    rintro _ _ ⟨a12, c12, rfl, rfl⟩
    refine wl_op0 [4] rfl rfl rfl (op_store rfl rfl tZ38l (by rfl) (by rfl) (by exact Nat.le_of_ble_eq_true rfl)) ?_
    rintro _ _ ⟨rfl, rfl⟩
    refine za rfl (wl_nil (st_tn (w_ret (st_br (st_tr (st_ret (vs := [_, _]) [12] Tryz.results26 ⟨⟨_, rfl, Ent.mono (Ent.lab (l := 4) rfl (says_cel 0)) (fun _ h => run_load_agg tA38l h (Nat.le_of_ble_eq_true rfl))⟩, ⟨rfl, trivial⟩⟩ rfl ?_))))))
    refine ⟨[(lab, _)], rfl, ?_⟩
    exact ⟨⟨k, fr, l, 0⟩, true, _, _, by unfold oneR; rw [if_pos (by omega)], rfl, rfl⟩
  · -- c6.f
    refine w_seq (w_region (zd rfl (op_fieldAddr (off := 6) rfl tF38_5l) (zd rfl (op_load1 rfl tO36l (Ent.lab (l := 2) rfl (says_cel 6))) (zd rfl (op_lenT rfl tS36l (Sl.ent (by first | exact Sl.app (by assumption) _ | exact Sl.app (Sl.app (by assumption) _) _))) ?_))))
    refine zd rfl (op_eql rfl rfl) (za rfl (wl_nil (st_tn (w_cond_d rfl (fun hc13 => ?_) (fun hc13 => ?_)))))
    · -- c13.t
      refine w_seq (w_region (zd rfl (op_loadA rfl tA38l (Ent.lab (l := 3) rfl (says_cel 0)) (Nat.le_of_ble_eq_true rfl)) (wl_op [] rfl rfl rfl rfl (op_fn Tryz.func50 rfl rfl rfl (copied_any 19 _ _ (Sl.app g _) (by omega))) ?_)))
      rintro _ _ ⟨a19, c19, rfl, rfl⟩
      refine wl_op0 [4] rfl rfl rfl (op_store rfl rfl tZ38l (by rfl) (by rfl) (by exact Nat.le_of_ble_eq_true rfl)) ?_
      rintro _ _ ⟨rfl, rfl⟩
      refine za rfl (wl_nil (st_tn (w_ret (st_br (st_tr (st_ret (vs := [_, _]) [19] Tryz.results26 ⟨⟨_, rfl, Ent.mono (Ent.lab (l := 4) rfl (says_cel 0)) (fun _ h => run_load_agg tA38l h (Nat.le_of_ble_eq_true rfl))⟩, ⟨rfl, trivial⟩⟩ rfl ?_))))))
      refine ⟨[(lab, _)], rfl, ?_⟩
      exact ⟨⟨k', fr', m, 0⟩, true, _, _, by unfold oneR; rw [if_neg (by omega), if_pos (by omega)], rfl, rfl⟩
    · -- c13.f
      refine w_skip (st_bn (st_tn (w_seq (w_emp 77 (slO_nil 3 1) ?_))))
      refine w_region (zd rfl (op_build tB38l rfl rfl) (wl_op0 [4] rfl rfl rfl (op_store rfl rfl tZ38l (by rfl) (by rfl) (by exact Nat.le_of_ble_eq_true rfl)) ?_))
      rintro _ _ ⟨rfl, rfl⟩
      refine za rfl (wl_nil (st_tn (w_ret (st_ret (vs := [_, _]) [77] Tryz.results26 ⟨⟨_, rfl, Ent.mono (Ent.lab (l := 4) rfl (says_cel 0)) (fun _ h => run_load_agg tA38l h (Nat.le_of_ble_eq_true rfl))⟩, ⟨rfl, trivial⟩⟩ rfl ?_))))
      refine ⟨[(lab, _)], rfl, ?_⟩
      exact ⟨zeroR 0, false, none, 0, by unfold oneR; rw [if_neg (by omega), if_neg (by omega)], rfl, rfl⟩
end Go.Proofs.YtecmigildpkigaaGreat.Ser
namespace Go.Proofs.YtecmigildpkigaaGreat.Ser
open Go Go.SL Go.RowKit
set_option linter.unusedVariables false
set_option linter.unusedSimpArgs false
theorem tA38m : aggB Tryz.prog 38 7 = true := by kernel_rfl
theorem tB38m : placesB Tryz.prog 38 = some ([(0, 1), (1, 1), (2, 1), (3, 2), (5, 1), (6, 1)], [Value.string .empty, Value.string .empty, Value.int .i64 0, Value.int .i64 0, Value.int .i64 0, Value.int .i64 0, Value.slice none 0 0]) := by kernel_rfl
theorem tF38_4m : fieldB Tryz.prog 38 4 5 = true := by kernel_rfl
theorem tF38_5m : fieldB Tryz.prog 38 5 6 = true := by kernel_rfl
theorem tF40_0m : fieldB Tryz.prog 40 0 0 = true := by kernel_rfl
theorem tF40_1m : fieldB Tryz.prog 40 1 1 = true := by kernel_rfl
theorem tL36_1m : zerosB Tryz.prog 36 3 1 1 = some [Value.int .i64 0] := by kernel_rfl
theorem tMixm : Tryz.prog.follows .mixedOrders = true := by kernel_rfl
theorem tN38m : (Tryz.prog.info? 38).bind (·.zero) = some (Value.agg #[Value.string .empty, Value.string .empty, Value.int .i64 0, Value.int .i64 0, Value.int .i64 0, Value.int .i64 0, Value.slice none 0 0]) := by kernel_rfl
theorem tN40m : (Tryz.prog.info? 40).bind (·.zero) = some (Value.agg #[Value.int .i64 0, Value.int .i64 0]) := by kernel_rfl
theorem tO3m : oneB Tryz.prog 3 = true := by kernel_rfl
theorem tO36m : oneB Tryz.prog 36 = true := by kernel_rfl
theorem tP36m : appB Tryz.prog 36 3 1 8 = true := by kernel_rfl
theorem tS36m : sliceB Tryz.prog 36 3 1 = true := by kernel_rfl
theorem tZ36m : (Tryz.prog.info? 36).map (·.size) = some 1 := by kernel_rfl
theorem tZ38m : (Tryz.prog.info? 38).map (·.size) = some 7 := by kernel_rfl
theorem tZ40m : (Tryz.prog.info? 40).map (·.size) = some 2 := by kernel_rfl
theorem find_at {α : Type} {l : List α} {p : α → Bool} {i : Nat} {x : α} (hx : l[i]? = some x) (hp : p x = true) (hn : ∀ q ∈ l.take i, p q = false) : l.find? p = some x := by
  have h1 : l = l.take i ++ x :: l.drop (i + 1) := by
    obtain ⟨h1, h2⟩ := List.getElem?_eq_some_iff.1 hx
    conv => lhs; rw [← List.take_append_drop i l]
    rw [List.drop_eq_getElem_cons h1, h2]
  rw [h1, List.find?_append, List.find?_eq_none.2 (fun q hq => by rw [hn q hq]; simp), List.find?_cons, hp]; rfl
def slots (lo hi : Int) : List Int := (List.range (hi - lo).toNat).map fun (i : Nat) => lo + (i : Int)
theorem slots_get {lo hi s : Int} (h0 : lo ≤ s) (h1 : s < hi) : (slots lo hi)[(s - lo).toNat]? = some s := by
  unfold slots
  rw [List.getElem?_map, List.getElem?_range (by omega)]
  simp; omega
theorem slots_len {lo hi : Int} : (slots lo hi).length = (hi - lo).toNat := by unfold slots; simp
theorem mem_slots {lo hi s : Int} : s ∈ slots lo hi ↔ lo ≤ s ∧ s < hi := by
  unfold slots
  rw [List.mem_map]
  constructor
  · rintro ⟨i, hi, rfl⟩; rw [List.mem_range] at hi; omega
  · intro h; exact ⟨(s - lo).toNat, by rw [List.mem_range]; omega, by omega⟩
theorem slots_snoc {lo hi s : Int} (h0 : lo ≤ s) (h1 : s < hi) : (slots lo hi).take (s + 1 - lo).toNat = (slots lo hi).take (s - lo).toNat ++ [s] := by
  rw [show (s + 1 - lo).toNat = (s - lo).toNat + 1 by omega]; exact take_snoc (slots_get h0 h1)
def bothR (k : SK) (lo hi : Int) (val : Int → Int × Int) : R :=
  if hi - lo > 1024 then zeroR 6 else match (slots lo hi).find? (fun s => decide ((val s).2 ≠ 0)) with
  | some s => zeroR (val s).2
  | none => ⟨k, lo, (slots lo hi).map (fun s => (val s).1), 0⟩
set_option maxHeartbeats 2000000 in
set_option maxRecDepth 100000 in
theorem both_any {σ : World} {F : List Res} {a b : Option Addr} {c d : Nat} {l m : List Int} {gf : Nat} {gn : Func} {fs cs : List Value} (lab : Nat) (k : SK) (fr : Int) (k' : SK) (fr' : Int) (val : Int → Int × Int) (h : Sl σ F encZ 1 (.slice a l.length c) l) (g : Sl σ F encZ 1 (.slice b m.length d) m) (hl : l.length ≤ 1048576) (hm : m.length ≤ 1048576) (hf : -1099511627776 ≤ fr ∧ fr ≤ 1099511627776) (hf' : -1099511627776 ≤ fr' ∧ fr' ≤ 1099511627776)
    (hg : Tryz.prog.funcs[gf]? = some gn) (hgb : gn.body.isSome = true) (hgn : (gn.name == "runtime.NumGoroutine") = false) (hp : ∀ (X : List Res) (s : Int), min fr fr' ≤ s → s < max (fr + l.length) (fr' + m.length) → FnT Tryz.prog σ (X ++ F) gf (fs ++ [.int .i64 s] ++ cs) [] (fun u ρ => u = .tuple #[.int .i64 (val s).1, .int .i64 (val s).2] ∧ ρ = [])) :
    FnT Tryz.prog σ F 27 [sr k fr (.slice a l.length c), sr k' fr' (.slice b m.length d), .func (.func gf) fs.toArray cs.toArray] [] (SerV (bothR k (min fr fr') (max (fr + l.length) (fr' + m.length)) val) lab) := by
  refine fn_of 61 Tryz.func27 rfl Tryz.ntmps27 rfl ?_
  have hle := h.i64
  have gle := g.i64
  refine w_seq (w_region (wl_op [] rfl rfl rfl rfl (op_box (T := 38) (l := 3) rfl) ?_))
  rintro _ _ ⟨b3, rfl, rfl⟩
  refine wl_op [] rfl rfl rfl rfl (op_box (T := 38) (l := 4) rfl) ?_
  rintro _ _ ⟨b4, rfl, rfl⟩
  refine wl_op [] rfl rfl rfl rfl (op_alloc (l := 6) tN38m) ?_
  rintro _ _ ⟨b6, rfl, rfl⟩
  refine za rfl (wl_nil (st_tn (w_seq ?_)))
  refine w_drawW (fun β => [⟨16, [], [], [], noW (_), false, [], []⟩, ⟨17, [0], [], [], noW (_), false, [], []⟩, ⟨18, [], [], [], noW (_), false, [], []⟩, ⟨19, [2], [], [], noW (_), false, [], []⟩, ⟨8, [], [], [], fun w => DetW _ _, false, [], []⟩, ⟨9, [], [], [], fun w => DetW _ _, false, [], []⟩]) [] [3, 4] [⟨16, [], [], false, [], []⟩, ⟨17, [0], [], false, [], []⟩, ⟨18, [], [], false, [], []⟩, ⟨19, [2], [], false, [], []⟩, ⟨8, [], [], false, [], []⟩, ⟨9, [], [], false, [], []⟩] [[], [], [], [], [], []] [[], [], [], [], [], []] tMixm (fun _ => by rfl) (fun _ => by rfl) (by kernel_rfl) (by kernel_rfl) (by rfl) (by rfl)
      (fun β => ⟨.p rfl (by intro X; exact op_loadA rfl tA38m (Ent.lab (l := 3) rfl (says_cel 0)) (Nat.le_of_ble_eq_true rfl)),
      ⟨.p rfl (by intro X; rintro _ _ ⟨rfl, rfl⟩; exact op_fn Tryz.func31 rfl rfl rfl (slots_any _ _ (Sl.app (Sl.app h X) _) (by omega) (by omega))),
      ⟨.p rfl (by intro X; exact op_loadA rfl tA38m (Ent.lab (l := 4) rfl (says_cel 0)) (Nat.le_of_ble_eq_true rfl)),
      ⟨.p rfl (by intro X; rintro _ _ ⟨rfl, rfl⟩; exact op_fn Tryz.func31 rfl rfl rfl (slots_any _ _ (Sl.app (Sl.app g X) _) (by omega) (by omega))),
      ⟨.px rfl (by intro X; refine OpT.mono (op_alloc (l := 8) tN40m) ?_; rintro _ _ ⟨b8, rfl, rfl⟩; obtain ⟨w, rfl⟩ : ∃ w : Wt, w.b = b8 := ⟨{ b := b8 }, rfl⟩; exact ⟨w, rfl, rfl⟩),
      ⟨.px rfl (by intro X; refine OpT.mono (op_alloc (l := 9) tN40m) ?_; rintro _ _ ⟨b9, rfl, rfl⟩; obtain ⟨w, rfl⟩ : ∃ w : Wt, w.b = b9 := ⟨{ b := b9 }, rfl⟩; exact ⟨w, rfl, rfl⟩),
      trivial⟩⟩⟩⟩⟩⟩)
      (fun β β' => ⟨fun _ => by rfl, ⟨fun _ => by rfl, ⟨fun _ => by rfl, ⟨fun _ => by rfl, ⟨fun _ => by rfl, ⟨fun _ => by rfl, trivial⟩⟩⟩⟩⟩⟩) ?_
  intro β
  rintro _ _ ⟨rfl, rfl⟩ _ _ ⟨rfl, rfl⟩ _ _ ⟨rfl, rfl⟩ _ _ ⟨rfl, rfl⟩ _ _ ⟨rfl, rfl⟩ _ _ ⟨rfl, rfl⟩
  generalize (β 4).b = b8
  generalize (β 5).b = b9
  refine wl_norm (e' := [(2, _), (3, _), (6, _), (8, _), (9, _), (17, _), (19, _)]) (.cons rfl (.cons rfl (.cons rfl (.cons rfl (.cons rfl (.cons rfl (.cons rfl (.nil _)))))))) (by dsimp only [cond_false, cond_true, List.nil_append, List.cons_append]) ?_
  refine wl_op0 [8] rfl rfl rfl (op_store rfl rfl tZ40m (by rfl) (by rfl) (by exact Nat.le_of_ble_eq_true rfl)) ?_
  rintro _ _ ⟨rfl, rfl⟩
  refine wl_op0 [9] rfl rfl rfl (op_store rfl rfl tZ40m (by rfl) (by rfl) (by exact Nat.le_of_ble_eq_true rfl)) ?_
  rintro _ _ ⟨rfl, rfl⟩
  refine wl_nil (st_tn (w_seq ?_))
  refine w_drawW (fun β => [⟨20, [], [], [], noW (_), false, [], []⟩, ⟨21, [0], [], [], noW (_), false, [], []⟩, ⟨22, [], [], [], noW (_), false, [], []⟩, ⟨23, [2], [], [], noW (_), false, [], []⟩, ⟨24, [1, 3], [], [], noW (_), false, [], []⟩, ⟨25, [], [], [], noW (_), false, [], []⟩, ⟨26, [5], [], [], noW (_), false, [], []⟩, ⟨27, [], [], [], noW (_), false, [], []⟩, ⟨28, [7], [], [], noW (_), false, [], []⟩, ⟨29, [6, 8], [], [], noW (_), false, [], []⟩, ⟨10, [4], [], [], noW (_), false, [], []⟩]) [] [8, 9] [⟨20, [], [], false, [], []⟩, ⟨21, [0], [], false, [], []⟩, ⟨22, [], [], false, [], []⟩, ⟨23, [2], [], false, [], []⟩, ⟨24, [1, 3], [], false, [], []⟩, ⟨25, [], [], false, [], []⟩, ⟨26, [5], [], false, [], []⟩, ⟨27, [], [], false, [], []⟩, ⟨28, [7], [], false, [], []⟩, ⟨29, [6, 8], [], false, [], []⟩, ⟨10, [4], [], false, [], []⟩] [[], [], [], [], [], [], [], [], [], [], []] [[], [], [], [], [], [], [], [], [], [], []] tMixm (fun _ => by rfl) (fun _ => by rfl) (by kernel_rfl) (by kernel_rfl) (by rfl) (by rfl)
      (fun β => ⟨.p rfl (by intro X; exact op_fieldAddr (off := 0) rfl tF40_0m),
      ⟨.p rfl (by intro X; rintro _ _ ⟨rfl, rfl⟩; exact op_load1 rfl tO3m (Ent.lab (l := 8) rfl (says_cel 0))),
      ⟨.p rfl (by intro X; exact op_fieldAddr (off := 0) rfl tF40_0m),
      ⟨.p rfl (by intro X; rintro _ _ ⟨rfl, rfl⟩; exact op_load1 rfl tO3m (Ent.lab (l := 9) rfl (says_cel 0))),
      ⟨.p rfl (by intro X; rintro _ _ ⟨rfl, rfl⟩ _ _ ⟨rfl, rfl⟩; exact op_min rfl rfl),
      ⟨.p rfl (by intro X; exact op_fieldAddr (off := 1) rfl tF40_1m),
      ⟨.p rfl (by intro X; rintro _ _ ⟨rfl, rfl⟩; exact op_load1 rfl tO3m (Ent.lab (l := 8) rfl (says_cel 1))),
      ⟨.p rfl (by intro X; exact op_fieldAddr (off := 1) rfl tF40_1m),
      ⟨.p rfl (by intro X; rintro _ _ ⟨rfl, rfl⟩; exact op_load1 rfl tO3m (Ent.lab (l := 9) rfl (says_cel 1))),
      ⟨.p rfl (by intro X; rintro _ _ ⟨rfl, rfl⟩ _ _ ⟨rfl, rfl⟩; exact op_max rfl rfl),
      ⟨.p rfl (by intro X; rintro _ _ ⟨rfl, rfl⟩; exact op_assign rfl),
      trivial⟩⟩⟩⟩⟩⟩⟩⟩⟩⟩⟩)
      (fun β β' => ⟨fun _ => by rfl, ⟨fun _ => by rfl, ⟨fun _ => by rfl, ⟨fun _ => by rfl, ⟨fun _ => by rfl, ⟨fun _ => by rfl, ⟨fun _ => by rfl, ⟨fun _ => by rfl, ⟨fun _ => by rfl, ⟨fun _ => by rfl, ⟨fun _ => by rfl, trivial⟩⟩⟩⟩⟩⟩⟩⟩⟩⟩⟩) ?_
  intro β
  rintro _ _ ⟨rfl, rfl⟩ _ _ ⟨rfl, rfl⟩ _ _ ⟨rfl, rfl⟩ _ _ ⟨rfl, rfl⟩ _ _ ⟨rfl, rfl⟩ _ _ ⟨rfl, rfl⟩ _ _ ⟨rfl, rfl⟩ _ _ ⟨rfl, rfl⟩ _ _ ⟨rfl, rfl⟩ _ _ ⟨rfl, rfl⟩ _ _ ⟨rfl, rfl⟩
  refine wl_norm (e' := [(2, _), (3, _), (6, _), (10, _), (29, _)]) (.cons rfl (.cons rfl (.cons rfl (.cons rfl (.cons rfl (.nil _)))))) (by dsimp only [cond_false, cond_true, List.nil_append, List.cons_append]) ?_
  refine za rfl (wl_nil (st_tn (w_seq ?_)))
  obtain ⟨lo, hlo⟩ : ∃ lo, lo = min fr fr' := ⟨_, rfl⟩
  obtain ⟨hi, hhi⟩ : ∃ hi, hi = max (fr + l.length) (fr' + m.length) := ⟨_, rfl⟩
  rw [← hlo, ← hhi]
  simp only [← hlo, ← hhi] at hp
  refine w_region (zd rfl (op_loadA rfl tA38m (Ent.lab (l := 3) rfl (says_cel 0)) (Nat.le_of_ble_eq_true rfl)) (zm rfl (zd rfl (op_fn Tryz.func18 rfl rfl rfl (like_any k fr lo a none l.length c 0 0)) (wl_op [] rfl rfl rfl rfl (op_alloc (l := 12) tN38m) ?_))))
  rintro _ _ ⟨b12, rfl, rfl⟩
  refine wl_op0 [12] rfl rfl rfl (op_store rfl rfl tZ38m (by rfl) (by rfl) (by exact Nat.le_of_ble_eq_true rfl)) ?_
  rintro _ _ ⟨rfl, rfl⟩
  refine wl_nil (st_tn (w_seq (w_seq (w_region (zm rfl (zm rfl (zd rfl (op_sub' rfl rfl (by omega)) ?_)))))))
  refine zd rfl (op_gtr rfl rfl) (wl_nil (st_tn (w_cond_d rfl (fun hc36 => ?_) (fun hc36 => ?_))))
  · -- c36.t
    refine w_seq (w_emp 77 (slO_nil 3 1) ?_)
    refine w_region (zd rfl (op_build tB38m rfl rfl) (wl_op0 [6] rfl rfl rfl (op_store rfl rfl tZ38m (by rfl) (by rfl) (by exact Nat.le_of_ble_eq_true rfl)) ?_))
    rintro _ _ ⟨rfl, rfl⟩
    refine za rfl (wl_nil (st_tn (w_ret (st_tr (st_ret (vs := [_, _]) [77] Tryz.results27 ⟨⟨_, rfl, Ent.mono (Ent.lab (l := 6) rfl (says_cel 0)) (fun _ h => run_load_agg tA38m h (Nat.le_of_ble_eq_true rfl))⟩, ⟨rfl, trivial⟩⟩ rfl ?_)))))
    refine ⟨[(lab, _)], rfl, ?_⟩
    unfold bothR; rw [if_pos hc36]; exact ⟨none, 0, rfl, rfl⟩
  · -- c36.f
    refine w_skip (st_tn (w_seq (w_seq (w_region (zm rfl (za rfl (wl_nil (st_tn (w_block (w_emp 912 (slO_nil 3 1) ?_))))))))))
    refine w_loopQ (X := Int × List Int × Option Addr × Nat) (fun z => (lo ≤ z.1 ∧ z.1 ≤ hi) ∧ z.2.1 = ((slots lo hi).take (z.1 - lo).toNat).map (fun q => (val q).1) ∧ ∀ q ∈ (slots lo hi).take (z.1 - lo).toNat, (val q).2 = 0) (fun z => [(13, .int .i64 (z.1))]) (fun z => [(912, slW 3 SL.encZ 1 (.slice (z.2.2.1) (z.2.1).length (z.2.2.2)) (z.2.1)), (12, cel b12 [.string k.svc, .string k.op, .int .i64 k.met, .int .i64 k.qn, .int .i64 k.qd, .int .i64 lo, .slice (z.2.2.1) (z.2.1).length (z.2.2.2)] 38)]) (fun z => (hi - z.1).toNat) ((_, [], none, 0)) [(2, _), (6, _), (11, _), (12, _)] [(3, _), (4, _), (6, _), (8, _), (9, _)] [912, 12, 3, 4, 6, 8, 9] rfl (rfl) (.cons rfl (.nil _)) (.cons rfl (.cons rfl (.cons rfl (.cons rfl (.nil _))))) (by
        try dsimp only
        exact ⟨by omega, by rw [Int.sub_self]; rfl, by rw [Int.sub_self]; simp⟩) ?_
    rintro ⟨s, out, a_out, c_out⟩ ⟨hs, ho, hn⟩
    refine w_norm2 (by dsimp only [List.cons_append, List.nil_append]) (by dsimp only [List.cons_append, List.nil_append]) ?_
    try dsimp only at hs ho hn ⊢
    refine w_seq (w_seq (w_region (zm rfl (zm rfl (zd rfl (op_lss rfl rfl) (wl_nil (st_tn (w_cond_d rfl (fun hc41 => ?_) (fun hc41 => ?_)))))))))
    · -- c41.t
      have hol : out.length ≤ 1024 := by rw [ho, List.length_map, List.length_take, slots_len]; omega
      refine w_skip (st_tn (w_seq (w_block (w_seq (w_region (zm rfl (zm rfl (zd rfl (op_fnv hg hgb hgn rfl rfl (hp _ s hs.1 (by omega))) ?_))))))))
      refine zm rfl (zd rfl (op_extract rfl rfl) (zd rfl (op_extract rfl rfl) (za rfl (za rfl (wl_nil (st_tn (w_seq (w_seq (w_region (zm rfl (zd rfl (op_neq rfl rfl) (wl_nil (st_tn ?_)))))))))))))
      refine w_cond_d rfl (fun hc51 => ?_) (fun hc51 => ?_)
      · -- c51.t
        refine w_seq (w_emp 77 (slO_nil 3 1) ?_)
        refine w_region (zd rfl (op_build tB38m rfl rfl) (zm rfl (wl_op0 [6] rfl rfl rfl (op_store rfl rfl tZ38m (by rfl) (by rfl) (by exact Nat.le_of_ble_eq_true rfl)) ?_)))
        rintro _ _ ⟨rfl, rfl⟩
        refine za rfl (wl_nil (st_tn (w_ret (st_tr (st_br (st_tr (st_tr (st_br (st_tr (st_ret (vs := [_, _]) [77] Tryz.results27 ⟨⟨_, rfl, Ent.mono (Ent.lab (l := 6) rfl (says_cel 0)) (fun _ h => run_load_agg tA38m h (Nat.le_of_ble_eq_true rfl))⟩, ⟨rfl, trivial⟩⟩ rfl ?_))))))))))
        refine ⟨[(lab, _)], rfl, ?_⟩
        have hb : bothR k lo hi val = zeroR (val s).2 := by
          unfold bothR; rw [if_neg hc36, find_at (slots_get hs.1 (by omega)) (decide_eq_true hc51) (fun q hq => by rw [hn q hq]; simp)]
        rw [hb]; exact ⟨none, 0, rfl, rfl⟩
      · -- c51.f
        refine w_skip (st_tn (w_region (zd rfl (op_fieldAddr (off := 6) rfl tF38_5m) (zd rfl (op_load1 rfl tO36m (Ent.lab (l := 12) rfl (says_cel 6))) (zm rfl (wl_op [] rfl rfl rfl rfl (op_buildSlice (enc := SL.encZ) (l := [_]) (lab := 57) tL36_1m rfl rfl (fun _ => rfl) rfl) ?_))))))
        rintro _ _ ⟨a57, c57, rfl, rfl⟩
        refine wl_op [912] rfl rfl rfl rfl (op_append (lab := 912) (lab' := 58) rfl rfl tP36m SL.enc1Z (Sl.lab 57 rfl (by simp [maxLen])) (by first | omega | (simp; done) | (simp; omega) | (simp [*]; omega)) (by first | omega | (simp; done) | (simp; omega) | (simp [*]; omega))) ?_
        rintro _ _ ⟨a58, c58, rfl, rfl⟩
        refine zd rfl (op_fieldAddr (off := 6) rfl tF38_5m) (wl_op0 [12] rfl rfl rfl (op_store rfl rfl tZ36m (by rfl) (by rfl) (by exact Nat.le_of_ble_eq_true rfl)) ?_)
        rintro _ _ ⟨rfl, rfl⟩
        refine wl_nil (st_bn (st_tn (w_region (zm rfl (zd rfl (op_add' rfl rfl (by omega)) ?_)))))
        refine za rfl (wl_nil ?_)
        refine st_roundQ (x := (s, out, a_out, c_out)) ((s + 1, _, _, _)) [58, 12, 3, 4, 6, 8, 9] rfl (rfl) (.cons rfl (.nil _)) (.cons rfl (.cons rfl (.cons rfl (.cons rfl (.nil _))))) (by
            try dsimp only
            refine ⟨by omega, ?_, ?_⟩
            · rw [slots_snoc hs.1 (by omega), List.map_append, ← ho]; rfl
            · rw [slots_snoc hs.1 (by omega)]; intro q hq; rcases List.mem_append.1 hq with hq | hq; (· exact hn q hq); (· simp only [List.mem_singleton] at hq; subst hq; exact Classical.byContradiction hc51)) (by
            try dsimp only
            omega)
    · -- c41.f
      refine w_exit (st_te ?_)
      refine st_te ?_
      refine st_be (st_tn (w_seq (w_region (zd rfl (op_loadA rfl tA38m (Ent.lab (l := 12) rfl (says_cel 0)) (Nat.le_of_ble_eq_true rfl)) (wl_op0 [6] rfl rfl rfl (op_store rfl rfl tZ38m (by rfl) (by rfl) (by exact Nat.le_of_ble_eq_true rfl)) ?_)))))
      rintro _ _ ⟨rfl, rfl⟩
      refine za rfl (wl_nil (st_tn (w_ret (st_ret (vs := [_, _]) [912] Tryz.results27 ⟨⟨_, rfl, Ent.mono (Ent.lab (l := 6) rfl (says_cel 0)) (fun _ h => run_load_agg tA38m h (Nat.le_of_ble_eq_true rfl))⟩, ⟨rfl, trivial⟩⟩ rfl ?_))))
      refine ⟨[(lab, _)], rfl, ?_⟩
      have hol : (slots lo hi).take (s - lo).toNat = slots lo hi := List.take_of_length_le (by rw [slots_len]; omega)
      rw [hol] at ho hn
      have hb : bothR k lo hi val = ⟨k, lo, out, 0⟩ := by
        unfold bothR; rw [if_neg hc36, List.find?_eq_none.2 (fun q hq => by rw [hn q hq]; simp), ← ho]
      rw [hb]; exact ⟨_, _, rfl, rfl⟩
def joinV (l : List Int) (fr : Int) (m : List Int) (fr' : Int) (x : Int) : Int := if fr ≤ x ∧ x < fr + l.length then atV l fr x else atV m fr' x
set_option maxHeartbeats 1000000 in
set_option maxRecDepth 100000 in
theorem join1_any {σ : World} {F : List Res} {p q : Addr} {a b : Option Addr} {c d : Nat} {l m : List Int} {k : SK} {fr : Int} {k' : SK} {fr' : Int} (x : Int) (hp : Ent σ F (At p (sr k fr (.slice a l.length c)).cells.toList)) (hq : Ent σ F (At q (sr k' fr' (.slice b m.length d)).cells.toList)) (h : Sl σ F encZ 1 (.slice a l.length c) l) (g : Sl σ F encZ 1 (.slice b m.length d) m) (hl : l.length ≤ 1048576) (hm : m.length ≤ 1048576) (hf : -1099511627776 ≤ fr ∧ fr ≤ 1099511627776) (hf' : -1099511627776 ≤ fr' ∧ fr' ≤ 1099511627776) (hx : -9223372036854775808 ≤ x ∧ x ≤ 9223372036854775807) :
    FnT Tryz.prog σ F 32 [.int .i64 x, .pointer (some p), .pointer (some q)] [] (fun u ρ => u = .tuple #[.int .i64 (joinV l fr m fr' x), .int .i64 0] ∧ ρ = []) := by
  refine fn_of 25 Tryz.func32 rfl Tryz.ntmps32 rfl ?_
  refine w_seq (w_region (za rfl (za rfl (wl_nil (st_tn (w_seq (w_seq (w_region (zd rfl (op_loadA rfl tA38m (Ent.app hp _) (Nat.le_of_ble_eq_true rfl)) (zm rfl (zd rfl (op_fn Tryz.func29 rfl rfl rfl (at_any _ _ _ (Sl.app h _) (by omega) (by omega) (by omega))) ?_)))))))))))
  refine zm rfl (zd rfl (op_extract rfl rfl) (zd rfl (op_extract rfl rfl) (za rfl (za rfl (wl_nil (st_tn (w_seq (w_region (zm rfl (wl_nil (st_tn (w_cond_d rfl (fun hc16 => ?_) (fun hc16 => ?_)))))))))))))
  · -- c16.t
    refine w_seq (w_region (zm rfl (za rfl (za rfl (wl_nil (st_tn (w_ret (st_tr (st_ret (vs := [_, _]) [] Tryz.results32 ⟨rfl, ⟨rfl, trivial⟩⟩ rfl ?_)))))))))
    refine ⟨_, rfl, ?_⟩
    unfold joinV; rw [if_pos hc16]; exact ⟨rfl, rfl⟩
  · -- c16.f
    refine w_skip (st_tn (w_seq (w_region (zd rfl (op_loadA rfl tA38m (Ent.app hq _) (Nat.le_of_ble_eq_true rfl)) (zm rfl (zd rfl (op_fn Tryz.func29 rfl rfl rfl (at_any _ _ _ (Sl.app g _) (by omega) (by omega) (by omega))) ?_))))))
    refine zm rfl (zd rfl (op_extract rfl rfl) (zd rfl (op_extract rfl rfl) (za rfl (za rfl (wl_nil (st_tn (w_seq (w_region (zm rfl (za rfl (za rfl (wl_nil (st_tn ?_)))))))))))))
    refine w_ret (st_ret (vs := [_, _]) [] Tryz.results32 ⟨rfl, ⟨rfl, trivial⟩⟩ rfl ?_)
    refine ⟨_, rfl, ?_⟩
    unfold joinV; rw [if_neg hc16]; exact ⟨rfl, rfl⟩
def joinR (k : SK) (fr : Int) (l : List Int) (k' : SK) (fr' : Int) (m : List Int) : R :=
  if ¬ sameK k k' then zeroR 17 else if (oneR k fr l k' fr' m).2 = true then ⟨(oneR k fr l k' fr' m).1.k, (oneR k fr l k' fr' m).1.fr, (oneR k fr l k' fr' m).1.vals, 0⟩
  else if max fr fr' > min (fr + l.length) (fr' + m.length) then zeroR 34
  else if (slots (max fr fr') (min (fr + l.length) (fr' + m.length))).any (fun s => decide (atV l fr s ≠ atV m fr' s)) then zeroR 17
  else bothR k (min fr fr') (max (fr + l.length) (fr' + m.length)) (fun s => (joinV l fr m fr' s, 0))
theorem oneR_false {k : SK} {fr : Int} {l : List Int} {k' : SK} {fr' : Int} {m : List Int} {r : R} (h : (r, false) = oneR k fr l k' fr' m) : l.length ≠ 0 ∧ m.length ≠ 0 := by
  unfold oneR at h
  split at h
  · simp at h
  · split at h
    · simp at h
    · exact ⟨by assumption, by assumption⟩
set_option maxHeartbeats 2000000 in
set_option maxRecDepth 100000 in
theorem join_any {σ : World} {F : List Res} {a b : Option Addr} {c d : Nat} {l m : List Int} (lab : Nat) (k : SK) (fr : Int) (k' : SK) (fr' : Int) (h : Sl σ F encZ 1 (.slice a l.length c) l) (g : Sl σ F encZ 1 (.slice b m.length d) m) (hl : l.length ≤ 1048576) (hm : m.length ≤ 1048576) (hf : -1099511627776 ≤ fr ∧ fr ≤ 1099511627776) (hf' : -1099511627776 ≤ fr' ∧ fr' ≤ 1099511627776) :
    FnT Tryz.prog σ F 10 [sr k fr (.slice a l.length c), sr k' fr' (.slice b m.length d)] [] (SerV (joinR k fr l k' fr' m) lab) := by
  refine fn_of 78 Tryz.func10 rfl Tryz.ntmps10 rfl ?_
  have hle := h.i64
  have gle := g.i64
  refine w_seq (w_region (wl_op [] rfl rfl rfl rfl (op_box (T := 38) (l := 2) rfl) ?_))
  rintro _ _ ⟨b2, rfl, rfl⟩
  refine wl_op [] rfl rfl rfl rfl (op_box (T := 38) (l := 3) rfl) ?_
  rintro _ _ ⟨b3, rfl, rfl⟩
  refine wl_op [] rfl rfl rfl rfl (op_alloc (l := 4) tN38m) ?_
  rintro _ _ ⟨b4, rfl, rfl⟩
  refine za rfl (wl_nil (st_tn (w_seq (w_seq (w_region (zd rfl (op_loadA rfl tA38m (Ent.lab (l := 2) rfl (says_cel 0)) (Nat.le_of_ble_eq_true rfl)) (zd rfl (op_loadA rfl tA38m (Ent.lab (l := 3) rfl (says_cel 0)) (Nat.le_of_ble_eq_true rfl)) (zd rfl (op_fn Tryz.func25 rfl rfl rfl (same_any k k' fr fr')) (zd rfl (op_not_d rfl) (wl_nil (st_tn (w_cond_d rfl (fun hc14 => ?_) (fun hc14 => ?_)))))))))))))
  · -- c14.t
    refine w_seq (w_emp 77 (slO_nil 3 1) ?_)
    refine w_region (zd rfl (op_build tB38m rfl rfl) (wl_op0 [4] rfl rfl rfl (op_store rfl rfl tZ38m (by rfl) (by rfl) (by exact Nat.le_of_ble_eq_true rfl)) ?_))
    rintro _ _ ⟨rfl, rfl⟩
    refine za rfl (wl_nil (st_tn (w_ret (st_tr (st_ret (vs := [_, _]) [77] Tryz.results10 ⟨⟨_, rfl, Ent.mono (Ent.lab (l := 4) rfl (says_cel 0)) (fun _ h => run_load_agg tA38m h (Nat.le_of_ble_eq_true rfl))⟩, ⟨rfl, trivial⟩⟩ rfl ?_)))))
    refine ⟨[(lab, _)], rfl, ?_⟩
    unfold joinR; rw [if_pos hc14]; exact ⟨none, 0, rfl, rfl⟩
  · -- c14.f
    refine w_skip (st_tn (w_seq (w_seq (w_region (zd rfl (op_loadA rfl tA38m (Ent.lab (l := 2) rfl (says_cel 0)) (Nat.le_of_ble_eq_true rfl)) (zd rfl (op_loadA rfl tA38m (Ent.lab (l := 3) rfl (says_cel 0)) (Nat.le_of_ble_eq_true rfl)) (wl_op [] rfl rfl rfl rfl (op_fn Tryz.func26 rfl rfl rfl (one_any 19 _ _ _ _ (Sl.app h _) (Sl.app g _) (by omega) (by omega))) ?_)))))))
    rintro _ _ ⟨r19, o19, a19, c19, hro19, rfl, rfl⟩
    refine zm rfl (zd rfl (op_extract rfl rfl) (zd rfl (op_extract rfl rfl) (wl_op [] rfl rfl rfl rfl (op_alloc (l := 6) tN38m) ?_)))
    rintro _ _ ⟨b6, rfl, rfl⟩
    refine wl_op0 [6] rfl rfl rfl (op_store rfl rfl tZ38m (by rfl) (by rfl) (by exact Nat.le_of_ble_eq_true rfl)) ?_
    rintro _ _ ⟨rfl, rfl⟩
    refine za rfl (wl_nil (st_tn (w_seq (w_region (zm rfl (wl_nil (st_tn (w_cond rfl (fun hc22 => ?_) (fun hc22 => ?_)))))))))
    · -- c22.t
      refine w_seq (w_region (zd rfl (op_loadA rfl tA38m (Ent.lab (l := 6) rfl (says_cel 0)) (Nat.le_of_ble_eq_true rfl)) (wl_op0 [4] rfl rfl rfl (op_store rfl rfl tZ38m (by rfl) (by rfl) (by exact Nat.le_of_ble_eq_true rfl)) ?_)))
      rintro _ _ ⟨rfl, rfl⟩
      refine za rfl (wl_nil (st_tn (w_ret (st_tr (st_ret (vs := [_, _]) [19] Tryz.results10 ⟨⟨_, rfl, Ent.mono (Ent.lab (l := 4) rfl (says_cel 0)) (fun _ h => run_load_agg tA38m h (Nat.le_of_ble_eq_true rfl))⟩, ⟨rfl, trivial⟩⟩ rfl ?_)))))
      refine ⟨[(lab, _)], rfl, ?_⟩
      subst hc22; have hj : joinR k fr l k' fr' m = ⟨r19.k, r19.fr, r19.vals, 0⟩ := by unfold joinR; rw [if_neg hc14, ← hro19]; rfl
      rw [hj]; exact ⟨_, _, rfl, rfl⟩
    · -- c22.f
      subst hc22
      have hne := oneR_false hro19
      have ho2 : ¬ (oneR k fr l k' fr' m).2 = true := by rw [← hro19]; simp
      refine w_skip (st_tn (w_seq ?_))
      refine w_drawW (fun β => [⟨24, [], [], [], noW (_), false, [], []⟩, ⟨25, [0], [], [], noW (_), false, [], []⟩, ⟨26, [], [], [], noW (_), false, [], []⟩, ⟨27, [2], [], [], noW (_), false, [], []⟩, ⟨8, [], [], [], fun w => DetW _ _, false, [], []⟩, ⟨9, [], [], [], fun w => DetW _ _, false, [], []⟩]) [] [2, 3] [⟨24, [], [], false, [], []⟩, ⟨25, [0], [], false, [], []⟩, ⟨26, [], [], false, [], []⟩, ⟨27, [2], [], false, [], []⟩, ⟨8, [], [], false, [], []⟩, ⟨9, [], [], false, [], []⟩] [[], [], [], [], [], []] [[], [], [], [], [], []] tMixm (fun _ => by rfl) (fun _ => by rfl) (by kernel_rfl) (by kernel_rfl) (by rfl) (by rfl)
          (fun β => ⟨.p rfl (by intro X; exact op_loadA rfl tA38m (Ent.lab (l := 2) rfl (says_cel 0)) (Nat.le_of_ble_eq_true rfl)),
          ⟨.p rfl (by intro X; rintro _ _ ⟨rfl, rfl⟩; exact op_fn Tryz.func31 rfl rfl rfl (slots_any _ _ (Sl.app (Sl.app h X) _) (by omega) (by omega))),
          ⟨.p rfl (by intro X; exact op_loadA rfl tA38m (Ent.lab (l := 3) rfl (says_cel 0)) (Nat.le_of_ble_eq_true rfl)),
          ⟨.p rfl (by intro X; rintro _ _ ⟨rfl, rfl⟩; exact op_fn Tryz.func31 rfl rfl rfl (slots_any _ _ (Sl.app (Sl.app g X) _) (by omega) (by omega))),
          ⟨.px rfl (by intro X; refine OpT.mono (op_alloc (l := 8) tN40m) ?_; rintro _ _ ⟨b8, rfl, rfl⟩; obtain ⟨w, rfl⟩ : ∃ w : Wt, w.b = b8 := ⟨{ b := b8 }, rfl⟩; exact ⟨w, rfl, rfl⟩),
          ⟨.px rfl (by intro X; refine OpT.mono (op_alloc (l := 9) tN40m) ?_; rintro _ _ ⟨b9, rfl, rfl⟩; obtain ⟨w, rfl⟩ : ∃ w : Wt, w.b = b9 := ⟨{ b := b9 }, rfl⟩; exact ⟨w, rfl, rfl⟩),
          trivial⟩⟩⟩⟩⟩⟩)
          (fun β β' => ⟨fun _ => by rfl, ⟨fun _ => by rfl, ⟨fun _ => by rfl, ⟨fun _ => by rfl, ⟨fun _ => by rfl, ⟨fun _ => by rfl, trivial⟩⟩⟩⟩⟩⟩) ?_
      intro β
      rintro _ _ ⟨rfl, rfl⟩ _ _ ⟨rfl, rfl⟩ _ _ ⟨rfl, rfl⟩ _ _ ⟨rfl, rfl⟩ _ _ ⟨rfl, rfl⟩ _ _ ⟨rfl, rfl⟩
      generalize (β 4).b = b8
      generalize (β 5).b = b9
      refine wl_norm (e' := [(2, _), (3, _), (4, _), (8, _), (9, _), (25, _), (27, _)]) (.cons rfl (.cons rfl (.cons rfl (.cons rfl (.cons rfl (.cons rfl (.cons rfl (.nil _)))))))) (by dsimp only [cond_false, cond_true, List.nil_append, List.cons_append]) ?_
      refine wl_op0 [8] rfl rfl rfl (op_store rfl rfl tZ40m (by rfl) (by rfl) (by exact Nat.le_of_ble_eq_true rfl)) ?_
      rintro _ _ ⟨rfl, rfl⟩
      refine wl_op0 [9] rfl rfl rfl (op_store rfl rfl tZ40m (by rfl) (by rfl) (by exact Nat.le_of_ble_eq_true rfl)) ?_
      rintro _ _ ⟨rfl, rfl⟩
      refine wl_nil (st_tn (w_seq (w_seq (w_region (zd rfl (op_fieldAddr (off := 0) rfl tF40_0m) (zd rfl (op_load1 rfl tO3m (Ent.lab (l := 8) rfl (says_cel 0))) (zd rfl (op_fieldAddr (off := 0) rfl tF40_0m) (zd rfl (op_load1 rfl tO3m (Ent.lab (l := 9) rfl (says_cel 0))) (zd rfl (op_max rfl rfl) (zd rfl (op_fieldAddr (off := 1) rfl tF40_1m) (zd rfl (op_load1 rfl tO3m (Ent.lab (l := 8) rfl (says_cel 1))) (zd rfl (op_fieldAddr (off := 1) rfl tF40_1m) (zd rfl (op_load1 rfl tO3m (Ent.lab (l := 9) rfl (says_cel 1))) ?_)))))))))))))
      refine zd rfl (op_min rfl rfl) (zd rfl (op_gtr rfl rfl) (wl_nil (st_tn (w_cond_d rfl (fun hc38 => ?_) (fun hc38 => ?_)))))
      · -- c38.t
        refine w_seq (w_emp 77 (slO_nil 3 1) ?_)
        refine w_region (zd rfl (op_build tB38m rfl rfl) (wl_op0 [4] rfl rfl rfl (op_store rfl rfl tZ38m (by rfl) (by rfl) (by exact Nat.le_of_ble_eq_true rfl)) ?_))
        rintro _ _ ⟨rfl, rfl⟩
        refine za rfl (wl_nil (st_tn (w_ret (st_tr (st_ret (vs := [_, _]) [77] Tryz.results10 ⟨⟨_, rfl, Ent.mono (Ent.lab (l := 4) rfl (says_cel 0)) (fun _ h => run_load_agg tA38m h (Nat.le_of_ble_eq_true rfl))⟩, ⟨rfl, trivial⟩⟩ rfl ?_)))))
        refine ⟨[(lab, _)], rfl, ?_⟩
        unfold joinR; rw [if_neg hc14, if_neg ho2, if_pos hc38]; exact ⟨none, 0, rfl, rfl⟩
      · -- c38.f
        refine w_skip (st_tn (w_seq (w_seq (w_region (zd rfl (op_fieldAddr (off := 0) rfl tF40_0m) (zd rfl (op_load1 rfl tO3m (Ent.lab (l := 8) rfl (says_cel 0))) (zd rfl (op_fieldAddr (off := 0) rfl tF40_0m) (zd rfl (op_load1 rfl tO3m (Ent.lab (l := 9) rfl (says_cel 0))) (zd rfl (op_max rfl rfl) (za rfl (wl_nil (st_tn (w_block ?_)))))))))))))
        refine w_loopQ (X := Int) (fun z => (max fr fr' ≤ z ∧ z ≤ min (fr + l.length) (fr' + m.length)) ∧ ∀ q, max fr fr' ≤ q → q < z → atV l fr q = atV m fr' q) (fun z => [(10, .int .i64 (z))]) (fun _ => []) (fun z => (min (fr + l.length) (fr' + m.length) - z).toNat) (_) [(2, _), (3, _), (4, _), (8, _), (9, _)] [(2, _), (3, _), (4, _), (19, _), (6, _), (8, _), (9, _)] [2, 3, 4, 19, 6, 8, 9] rfl (rfl) (.cons rfl (.nil _)) (.cons rfl (.cons rfl (.cons rfl (.cons rfl (.cons rfl (.nil _)))))) (by
            try dsimp only
            exact ⟨by omega, fun q h1 h2 => by omega⟩) ?_
        rintro s ⟨hs, hn⟩
        refine w_norm2 (by dsimp only [List.cons_append, List.nil_append]) (by dsimp only [List.cons_append, List.nil_append]) ?_
        try dsimp only at hs hn ⊢
        refine w_seq (w_seq (w_region (zm rfl (zd rfl (op_fieldAddr (off := 1) rfl tF40_1m) (zd rfl (op_load1 rfl tO3m (Ent.lab (l := 8) rfl (says_cel 1))) (zd rfl (op_fieldAddr (off := 1) rfl tF40_1m) (zd rfl (op_load1 rfl tO3m (Ent.lab (l := 9) rfl (says_cel 1))) (zd rfl (op_min rfl rfl) (zd rfl (op_lss rfl rfl) (wl_nil (st_tn (w_cond_d rfl (fun hc51 => ?_) (fun hc51 => ?_)))))))))))))
        · -- c51.t
          obtain ⟨x, hx⟩ := getE (l := l) (i := (s - fr).toNat) (by omega)
          obtain ⟨y, hy⟩ := getE (l := m) (i := (s - fr').toNat) (by omega)
          have hxv : atV l fr s = x := by unfold atV; rw [if_pos (by omega), List.getD_eq_getElem?_getD, hx]; rfl
          have hyv : atV m fr' s = y := by unfold atV; rw [if_pos (by omega), List.getD_eq_getElem?_getD, hy]; rfl
          refine w_skip (st_tn (w_seq (w_block (w_seq ?_))))
          refine w_drawW (fun β => [⟨54, [], [], [], noW (_), false, [], []⟩, ⟨55, [0], [], [], noW (_), false, [], []⟩, ⟨56, [], [], [], noW (_), false, [], []⟩, ⟨57, [], [], [], noW (_), false, [], []⟩, ⟨58, [3], [], [], noW (_), false, [], []⟩, ⟨59, [2, 4], [], [], noW (_), false, [], []⟩, ⟨60, [1, 5], [], [], noW (_), false, [], []⟩, ⟨61, [6], [], [], noW (_), false, [], []⟩, ⟨62, [], [], [], noW (_), false, [], []⟩, ⟨63, [8], [], [], noW (_), false, [], []⟩, ⟨64, [], [], [], noW (_), false, [], []⟩, ⟨65, [], [], [], noW (_), false, [], []⟩, ⟨66, [11], [], [], noW (_), false, [], []⟩, ⟨67, [10, 12], [], [], noW (_), false, [], []⟩, ⟨68, [9, 13], [], [], noW (_), false, [], []⟩, ⟨69, [14], [], [], noW (_), false, [], []⟩]) [] [2, 10, 3] [⟨54, [], [], false, [], []⟩, ⟨55, [0], [], false, [], []⟩, ⟨56, [], [], false, [], []⟩, ⟨57, [], [], false, [], []⟩, ⟨58, [3], [], false, [], []⟩, ⟨59, [2, 4], [], false, [], []⟩, ⟨60, [1, 5], [], false, [], []⟩, ⟨61, [6], [], false, [], []⟩, ⟨62, [], [], false, [], []⟩, ⟨63, [8], [], false, [], []⟩, ⟨64, [], [], false, [], []⟩, ⟨65, [], [], false, [], []⟩, ⟨66, [11], [], false, [], []⟩, ⟨67, [10, 12], [], false, [], []⟩, ⟨68, [9, 13], [], false, [], []⟩, ⟨69, [14], [], false, [], []⟩] [[], [], [], [], [], [], [], [], [], [], [], [], [], [], [], []] [[], [], [], [], [], [], [], [], [], [], [], [], [], [], [], []] tMixm (fun _ => by rfl) (fun _ => by rfl) (by kernel_rfl) (by kernel_rfl) (by rfl) (by rfl)
              (fun β => ⟨.p rfl (by intro X; exact op_fieldAddr (off := 6) rfl tF38_5m),
              ⟨.p rfl (by intro X; rintro _ _ ⟨rfl, rfl⟩; exact op_load1 rfl tO36m (Ent.lab (l := 2) rfl (says_cel 6))),
              ⟨.p rfl (by intro X; exact op_move rfl),
              ⟨.p rfl (by intro X; exact op_fieldAddr (off := 5) rfl tF38_4m),
              ⟨.p rfl (by intro X; rintro _ _ ⟨rfl, rfl⟩; exact op_load1 rfl tO3m (Ent.lab (l := 2) rfl (says_cel 5))),
              ⟨.p rfl (by intro X; rintro _ _ ⟨rfl, rfl⟩ _ _ ⟨rfl, rfl⟩; exact op_sub' rfl rfl (by omega)),
              ⟨.p rfl (by intro X; rintro _ _ ⟨rfl, rfl⟩ _ _ ⟨rfl, rfl⟩; exact op_idxZ rfl rfl tS36m (Sl.ent (Sl.app (Sl.app h X) _)) (by omega) (by omega)),
              ⟨.p rfl (by intro X; rintro _ _ ⟨rfl, rfl⟩; exact op_ldx rfl tO3m (Sl.app (Sl.app h X) _) (by assumption) (by rfl)),
              ⟨.p rfl (by intro X; exact op_fieldAddr (off := 6) rfl tF38_5m),
              ⟨.p rfl (by intro X; rintro _ _ ⟨rfl, rfl⟩; exact op_load1 rfl tO36m (Ent.lab (l := 3) rfl (says_cel 6))),
              ⟨.p rfl (by intro X; exact op_move rfl),
              ⟨.p rfl (by intro X; exact op_fieldAddr (off := 5) rfl tF38_4m),
              ⟨.p rfl (by intro X; rintro _ _ ⟨rfl, rfl⟩; exact op_load1 rfl tO3m (Ent.lab (l := 3) rfl (says_cel 5))),
              ⟨.p rfl (by intro X; rintro _ _ ⟨rfl, rfl⟩ _ _ ⟨rfl, rfl⟩; exact op_sub' rfl rfl (by omega)),
              ⟨.p rfl (by intro X; rintro _ _ ⟨rfl, rfl⟩ _ _ ⟨rfl, rfl⟩; exact op_idxZ rfl rfl tS36m (Sl.ent (Sl.app (Sl.app g X) _)) (by omega) (by omega)),
              ⟨.p rfl (by intro X; rintro _ _ ⟨rfl, rfl⟩; exact op_ldx rfl tO3m (Sl.app (Sl.app g X) _) (by assumption) (by rfl)),
              trivial⟩⟩⟩⟩⟩⟩⟩⟩⟩⟩⟩⟩⟩⟩⟩⟩)
              (fun β β' => ⟨fun _ => by rfl, ⟨fun _ => by rfl, ⟨fun _ => by rfl, ⟨fun _ => by rfl, ⟨fun _ => by rfl, ⟨fun _ => by rfl, ⟨fun _ => by rfl, ⟨fun _ => by rfl, ⟨fun _ => by rfl, ⟨fun _ => by rfl, ⟨fun _ => by rfl, ⟨fun _ => by rfl, ⟨fun _ => by rfl, ⟨fun _ => by rfl, ⟨fun _ => by rfl, ⟨fun _ => by rfl, trivial⟩⟩⟩⟩⟩⟩⟩⟩⟩⟩⟩⟩⟩⟩⟩⟩) ?_
          intro β
          rintro _ _ ⟨rfl, rfl⟩ _ _ ⟨rfl, rfl⟩ _ _ ⟨rfl, rfl⟩ _ _ ⟨rfl, rfl⟩ _ _ ⟨rfl, rfl⟩ _ _ ⟨rfl, rfl⟩ _ _ ⟨rfl, rfl⟩ _ _ ⟨rfl, rfl⟩ _ _ ⟨rfl, rfl⟩ _ _ ⟨rfl, rfl⟩ _ _ ⟨rfl, rfl⟩ _ _ ⟨rfl, rfl⟩ _ _ ⟨rfl, rfl⟩ _ _ ⟨rfl, rfl⟩ _ _ ⟨rfl, rfl⟩ _ _ ⟨rfl, rfl⟩
          refine wl_norm (e' := [(2, _), (3, _), (4, _), (8, _), (9, _), (10, _), (61, _), (69, _)]) (.cons rfl (.cons rfl (.cons rfl (.cons rfl (.cons rfl (.cons rfl (.cons rfl (.cons rfl (.nil _))))))))) (by dsimp only [cond_false, cond_true, List.nil_append, List.cons_append]) ?_
          refine zd rfl (op_neq rfl rfl) (wl_nil (st_tn (w_cond_d rfl (fun hc70 => ?_) (fun hc70 => ?_))))
          · -- c70.t
            refine w_seq (w_emp 77 (slO_nil 3 1) ?_)
            refine w_region (zd rfl (op_build tB38m rfl rfl) (wl_op0 [4] rfl rfl rfl (op_store rfl rfl tZ38m (by rfl) (by rfl) (by exact Nat.le_of_ble_eq_true rfl)) ?_))
            rintro _ _ ⟨rfl, rfl⟩
            refine za rfl (wl_nil (st_tn (w_ret (st_br (st_tr (st_tr (st_br (st_tr (st_ret (vs := [_, _]) [77] Tryz.results10 ⟨⟨_, rfl, Ent.mono (Ent.lab (l := 4) rfl (says_cel 0)) (fun _ h => run_load_agg tA38m h (Nat.le_of_ble_eq_true rfl))⟩, ⟨rfl, trivial⟩⟩ rfl ?_)))))))))
            refine ⟨[(lab, _)], rfl, ?_⟩
            unfold joinR; rw [if_neg hc14, if_neg ho2, if_neg hc38, if_pos (List.any_eq_true.2 ⟨s, mem_slots.2 (by omega), decide_eq_true (by rw [hxv, hyv]; exact hc70)⟩)]; exact ⟨none, 0, rfl, rfl⟩
          · -- c70.f
            refine w_skip (st_bn (st_tn (w_region (zm rfl (zd rfl (op_add' rfl rfl (by omega)) ?_)))))
            refine za rfl (wl_nil ?_)
            refine st_roundQ (x := s) (s + 1) [2, 3, 4, 19, 6, 8, 9] rfl (rfl) (.cons rfl (.nil _)) (.cons rfl (.cons rfl (.cons rfl (.cons rfl (.cons rfl (.nil _)))))) (by
                try dsimp only
                refine ⟨by omega, fun q h1 h2 => ?_⟩
                by_cases hq : q = s
                · subst hq; rw [hxv, hyv]; omega
                · exact hn q h1 (by omega)) (by
                try dsimp only
                omega)
        · -- c51.f
          refine w_exit (st_te ?_)
          refine st_te ?_
          refine st_be (st_tn (w_seq (w_region (zd rfl (op_loadA rfl tA38m (Ent.lab (l := 2) rfl (says_cel 0)) (Nat.le_of_ble_eq_true rfl)) (zd rfl (op_loadA rfl tA38m (Ent.lab (l := 3) rfl (says_cel 0)) (Nat.le_of_ble_eq_true rfl)) (zd rfl (op_makeFunc rfl rfl) (wl_op [] rfl rfl rfl rfl (op_fn Tryz.func27 rfl rfl rfl (both_any (fs := []) (cs := [.pointer (some ⟨b2, 0, none⟩), .pointer (some ⟨b3, 0, none⟩)]) 75 k fr k' fr' (fun s => (joinV l fr m fr' s, 0)) (Sl.app h _) (Sl.app g _) hl hm hf hf' Tryz.func32 rfl rfl (fun X s h1 h2 => join1_any (k := k) (fr := fr) (k' := k') (fr' := fr') s (Ent.app (Ent.lab (l := 2) rfl (says_cel 0)) X) (Ent.app (Ent.lab (l := 3) rfl (says_cel 0)) X) (Sl.app (Sl.app h _) X) (Sl.app (Sl.app g _) X) hl hm hf hf' (by omega)))) ?_)))))))
          rintro _ _ ⟨a75, c75, rfl, rfl⟩
          refine zd rfl (op_extract rfl rfl) (zd rfl (op_extract rfl rfl) (wl_op0 [4] rfl rfl rfl (op_store rfl rfl tZ38m (by rfl) (by rfl) (by exact Nat.le_of_ble_eq_true rfl)) ?_))
          rintro _ _ ⟨rfl, rfl⟩
          refine za rfl (wl_nil (st_tn (w_ret (st_ret (vs := [_, _]) [75] Tryz.results10 ⟨⟨_, rfl, Ent.mono (Ent.lab (l := 4) rfl (says_cel 0)) (fun _ h => run_load_agg tA38m h (Nat.le_of_ble_eq_true rfl))⟩, ⟨rfl, trivial⟩⟩ rfl ?_))))
          refine ⟨[(lab, _)], rfl, ?_⟩
          have hj : joinR k fr l k' fr' m = bothR k (min fr fr') (max (fr + l.length) (fr' + m.length)) (fun s => (joinV l fr m fr' s, 0)) := by
            unfold joinR; rw [if_neg hc14, if_neg ho2, if_neg hc38, if_neg]
            intro h1; obtain ⟨q, hq, h2⟩ := List.any_eq_true.1 h1
            have h3 := mem_slots.1 hq
            exact of_decide_eq_true h2 (hn q h3.1 (by omega))
          rw [hj]; exact ⟨_, _, rfl, rfl⟩
end Go.Proofs.YtecmigildpkigaaGreat.Ser
namespace Go.Proofs.YtecmigildpkigaaGreat.Ser
open Go Go.SL Go.RowKit
set_option linter.unusedVariables false
set_option linter.unusedSimpArgs false
theorem nilZ {σ : World} {F : List Res} {a : Option Addr} {c : Nat} : Sl σ F encZ 1 (.slice a ([] : List Int).length c) [] := ⟨fun w _ => ⟨by simp, by simp, .inl ⟨a, c, rfl, rfl⟩⟩, by simp [maxLen]⟩
theorem bothR_all {k : SK} {lo hi : Int} {f : Int → Int} (h : hi - lo ≤ 1024) : bothR k lo hi (fun s => (f s, 0)) = ⟨k, lo, (slots lo hi).map f, 0⟩ := by
  unfold bothR
  rw [if_neg (by omega), List.find?_eq_none.2 (fun q hq => by simp)]
theorem slots_all {lo : Int} {L : List Int} {f : Int → Int} (h : ∀ (i : Nat) (y : Int), L[i]? = some y → f (lo + i) = y) : (slots lo (lo + L.length)).map f = L := by
  apply List.ext_getElem?
  intro i
  rw [List.getElem?_map]
  by_cases hi : i < L.length
  · obtain ⟨y, hy⟩ := getE hi
    have h1 := slots_get (lo := lo) (hi := lo + L.length) (s := lo + i) (by omega) (by omega)
    rw [show (lo + (i : Int) - lo).toNat = i by omega] at h1
    rw [h1, hy, Option.map_some, h i y hy]
  · rw [List.getElem?_eq_none (by rw [slots_len]; omega), List.getElem?_eq_none (by omega)]; rfl
theorem sameK_refl (k : SK) : sameK k k := sameK_eq.2 rfl
theorem oneR_both {k : SK} {fr : Int} {l : List Int} {k' : SK} {fr' : Int} {m : List Int} (h1 : l.length ≠ 0) (h2 : m.length ≠ 0) : ¬ (oneR k fr l k' fr' m).2 = true := by
  unfold oneR; rw [if_neg h2, if_neg h1]; simp
theorem slots_nil {lo hi : Int} (h : hi ≤ lo) : slots lo hi = [] := by unfold slots; rw [show (hi - lo).toNat = 0 by omega]; rfl
theorem at_take {L : List Int} {fr : Int} {n i : Nat} {y : Int} (hn : n ≤ L.length) (hi : i < n) (hy : L[i]? = some y) : atV (L.take n) fr (fr + i) = y := by
  unfold atV
  rw [if_pos (by rw [List.length_take]; omega), show (fr + (i : Int) - fr).toNat = i by omega, List.getD_eq_getElem?_getD, List.getElem?_take, if_pos hi, hy]; rfl
theorem at_drop {L : List Int} {fr : Int} {n i : Nat} {y : Int} (hi : n ≤ i) (hy : L[i]? = some y) : atV (L.drop n) (fr + n) (fr + i) = y := by
  have hlt := ltE hy
  unfold atV
  rw [if_pos (by rw [List.length_drop]; omega), show (fr + (i : Int) - (fr + n)).toNat = i - n by omega, List.getD_eq_getElem?_getD, List.getElem?_drop, show n + (i - n) = i by omega, hy]; rfl
theorem join_split1 {k : SK} {fr : Int} {L : List Int} {n : Nat} (h0 : 0 < n) (h1 : n < L.length) (h2 : L.length ≤ 1024) : joinR k fr (L.take n) k (fr + n) (L.drop n) = ⟨k, fr, L, 0⟩ := by
  have hl1 : (L.take n).length = n := by rw [List.length_take]; omega
  have hl2 : (L.drop n).length = L.length - n := by rw [List.length_drop]
  unfold joinR
  rw [if_neg (fun h => h (sameK_refl k)), if_neg (oneR_both (by omega) (by omega)), if_neg (by omega), slots_nil (by omega), if_neg (by simp), show min fr (fr + (n : Int)) = fr by omega,
    show max (fr + (L.take n).length) (fr + n + (L.drop n).length) = fr + L.length by omega, bothR_all (by omega), slots_all]
  intro i y hy
  have hlt := ltE hy
  unfold joinV
  by_cases hi : i < n
  · rw [if_pos (by omega)]; exact at_take (by omega) hi hy
  · rw [if_neg (by omega)]; exact at_drop (by omega) hy
end Go.Proofs.YtecmigildpkigaaGreat.Ser
namespace Go.Proofs.YtecmigildpkigaaGreat.Ser
open Go Go.SL Go.RowKit
set_option linter.unusedVariables false
set_option linter.unusedSimpArgs false
theorem tA38o : aggB Tryz.prog 38 7 = true := by kernel_rfl
theorem tB38o : placesB Tryz.prog 38 = some ([(0, 1), (1, 1), (2, 1), (3, 2), (5, 1), (6, 1)], [Value.string .empty, Value.string .empty, Value.int .i64 0, Value.int .i64 0, Value.int .i64 0, Value.int .i64 0, Value.slice none 0 0]) := by kernel_rfl
theorem tF38_2o : fieldB Tryz.prog 38 2 2 = true := by kernel_rfl
theorem tN38o : (Tryz.prog.info? 38).bind (·.zero) = some (Value.agg #[Value.string .empty, Value.string .empty, Value.int .i64 0, Value.int .i64 0, Value.int .i64 0, Value.int .i64 0, Value.slice none 0 0]) := by kernel_rfl
theorem tO3o : oneB Tryz.prog 3 = true := by kernel_rfl
theorem tZ38o : (Tryz.prog.info? 38).map (·.size) = some 7 := by kernel_rfl
def sumV (l : List Int) (fr : Int) (m : List Int) (fr' : Int) (x : Int) : Int × Int := if atV l fr x + atV m fr' x > 1099511627776 then (0, 20) else (atV l fr x + atV m fr' x, 0)
theorem atV_bd {l : List Int} {fr x : Int} (hv : ∀ x ∈ l, 0 ≤ x ∧ x ≤ 1099511627776) : 0 ≤ atV l fr x ∧ atV l fr x ≤ 1099511627776 := by
  unfold atV
  split
  · rw [List.getD_eq_getElem?_getD]
    cases h : l[(x - fr).toNat]? with
    | none => simp
    | some y => exact hv y (List.mem_of_getElem? h)
  · omega
set_option maxHeartbeats 1000000 in
set_option maxRecDepth 100000 in
theorem sum1_any {σ : World} {F : List Res} {p q : Addr} {a b : Option Addr} {c d : Nat} {l m : List Int} {k : SK} {fr : Int} {k' : SK} {fr' : Int} (x : Int) (hp : Ent σ F (At p (sr k fr (.slice a l.length c)).cells.toList)) (hq : Ent σ F (At q (sr k' fr' (.slice b m.length d)).cells.toList)) (h : Sl σ F encZ 1 (.slice a l.length c) l) (g : Sl σ F encZ 1 (.slice b m.length d) m) (hl : l.length ≤ 1048576) (hm : m.length ≤ 1048576) (hf : -1099511627776 ≤ fr ∧ fr ≤ 1099511627776) (hf' : -1099511627776 ≤ fr' ∧ fr' ≤ 1099511627776) (hx : -9223372036854775808 ≤ x ∧ x ≤ 9223372036854775807) (hv : ∀ x ∈ l, 0 ≤ x ∧ x ≤ 1099511627776) (hw : ∀ x ∈ m, 0 ≤ x ∧ x ≤ 1099511627776) :
    FnT Tryz.prog σ F 28 [.int .i64 x, .pointer (some p), .pointer (some q)] [] (fun u ρ => u = .tuple #[.int .i64 (sumV l fr m fr' x).1, .int .i64 (sumV l fr m fr' x).2] ∧ ρ = []) := by
  refine fn_of 29 Tryz.func28 rfl Tryz.ntmps28 rfl ?_
  have h1 := atV_bd (fr := fr) (x := x) hv
  have h2 := atV_bd (fr := fr') (x := x) hw
  refine w_seq (w_region (za rfl (za rfl (wl_nil (st_tn (w_seq (w_region (zd rfl (op_loadA rfl tA38o (Ent.app hp _) (Nat.le_of_ble_eq_true rfl)) (zm rfl (zd rfl (op_fn Tryz.func29 rfl rfl rfl (at_any _ _ _ (Sl.app h _) (by omega) (by omega) (by omega))) ?_))))))))))
  refine zm rfl (zd rfl (op_extract rfl rfl) (zd rfl (op_extract rfl rfl) (za rfl (za rfl (wl_nil (st_tn (w_seq (w_region (zd rfl (op_loadA rfl tA38o (Ent.app hq _) (Nat.le_of_ble_eq_true rfl)) (zm rfl (zd rfl (op_fn Tryz.func29 rfl rfl rfl (at_any _ _ _ (Sl.app g _) (by omega) (by omega) (by omega))) ?_)))))))))))
  refine zm rfl (zd rfl (op_extract rfl rfl) (zd rfl (op_extract rfl rfl) (za rfl (za rfl (wl_nil (st_tn (w_seq (w_seq (w_region (zm rfl (zm rfl (zd rfl (op_add' rfl rfl (by omega)) ?_))))))))))))
  refine zd rfl (op_gtr rfl rfl) (wl_nil (st_tn (w_cond_d rfl (fun hc25 => ?_) (fun hc25 => ?_))))
  · -- c25.t
    refine w_seq (w_region (za rfl (za rfl (wl_nil (st_tn (w_ret (st_tr (st_ret (vs := [_, _]) [] Tryz.results28 ⟨rfl, ⟨rfl, trivial⟩⟩ rfl ?_))))))))
    refine ⟨_, rfl, ?_⟩
    unfold sumV; rw [if_pos hc25]; exact ⟨rfl, rfl⟩
  · -- c25.f
    refine w_skip (st_tn (w_seq (w_region (zm rfl (zm rfl (zd rfl (op_add' rfl rfl (by omega)) ?_))))))
    refine za rfl (za rfl (wl_nil (st_tn (w_ret (st_ret (vs := [_, _]) [] Tryz.results28 ⟨rfl, ⟨rfl, trivial⟩⟩ rfl ?_)))))
    refine ⟨_, rfl, ?_⟩
    unfold sumV; rw [if_neg hc25]; exact ⟨rfl, rfl⟩
def sumR (k : SK) (fr : Int) (l : List Int) (k' : SK) (fr' : Int) (m : List Int) : R :=
  if ¬ sameK k k' then zeroR 17 else if k.met = 3 then zeroR 12 else if (oneR k fr l k' fr' m).2 = true then ⟨(oneR k fr l k' fr' m).1.k, (oneR k fr l k' fr' m).1.fr, (oneR k fr l k' fr' m).1.vals, 0⟩
  else bothR k (min fr fr') (max (fr + l.length) (fr' + m.length)) (sumV l fr m fr')
set_option maxHeartbeats 2000000 in
set_option maxRecDepth 100000 in
theorem sum_any {σ : World} {F : List Res} {a b : Option Addr} {c d : Nat} {l m : List Int} (lab : Nat) (k : SK) (fr : Int) (k' : SK) (fr' : Int) (h : Sl σ F encZ 1 (.slice a l.length c) l) (g : Sl σ F encZ 1 (.slice b m.length d) m) (hl : l.length ≤ 1048576) (hm : m.length ≤ 1048576) (hf : -1099511627776 ≤ fr ∧ fr ≤ 1099511627776) (hf' : -1099511627776 ≤ fr' ∧ fr' ≤ 1099511627776) (hv : ∀ x ∈ l, 0 ≤ x ∧ x ≤ 1099511627776) (hw : ∀ x ∈ m, 0 ≤ x ∧ x ≤ 1099511627776) :
    FnT Tryz.prog σ F 8 [sr k fr (.slice a l.length c), sr k' fr' (.slice b m.length d)] [] (SerV (sumR k fr l k' fr' m) lab) := by
  refine fn_of 33 Tryz.func8 rfl Tryz.ntmps8 rfl ?_
  have hle := h.i64
  have gle := g.i64
  refine w_seq (w_region (wl_op [] rfl rfl rfl rfl (op_box (T := 38) (l := 2) rfl) ?_))
  rintro _ _ ⟨b2, rfl, rfl⟩
  refine wl_op [] rfl rfl rfl rfl (op_box (T := 38) (l := 3) rfl) ?_
  rintro _ _ ⟨b3, rfl, rfl⟩
  refine wl_op [] rfl rfl rfl rfl (op_alloc (l := 4) tN38o) ?_
  rintro _ _ ⟨b4, rfl, rfl⟩
  refine za rfl (wl_nil (st_tn (w_seq (w_block (w_seq (w_region (zd rfl (op_loadA rfl tA38o (Ent.lab (l := 2) rfl (says_cel 0)) (Nat.le_of_ble_eq_true rfl)) (zd rfl (op_loadA rfl tA38o (Ent.lab (l := 3) rfl (says_cel 0)) (Nat.le_of_ble_eq_true rfl)) (zd rfl (op_fn Tryz.func25 rfl rfl rfl (same_any k k' fr fr')) (zd rfl (op_not_d rfl) (za rfl (wl_nil (st_tn ?_)))))))))))))
  refine w_cond_d rfl (fun hc8 => ?_) (fun hc8 => ?_)
  · -- c8.t
    refine w_seq (w_emp 77 (slO_nil 3 1) ?_)
    refine w_region (zd rfl (op_build tB38o rfl rfl) (wl_op0 [4] rfl rfl rfl (op_store rfl rfl tZ38o (by rfl) (by rfl) (by exact Nat.le_of_ble_eq_true rfl)) ?_))
    rintro _ _ ⟨rfl, rfl⟩
    refine za rfl (wl_nil (st_tn (w_ret (st_br (st_tr (st_ret (vs := [_, _]) [77] Tryz.results8 ⟨⟨_, rfl, Ent.mono (Ent.lab (l := 4) rfl (says_cel 0)) (fun _ h => run_load_agg tA38o h (Nat.le_of_ble_eq_true rfl))⟩, ⟨rfl, trivial⟩⟩ rfl ?_))))))
    refine ⟨[(lab, _)], rfl, ?_⟩
    unfold sumR; rw [if_pos hc8]; exact ⟨none, 0, rfl, rfl⟩
  · -- c8.f
    refine w_seq (w_region (zd rfl (op_fieldAddr (off := 2) rfl tF38_2o) (zd rfl (op_load1 rfl tO3o (Ent.lab (l := 2) rfl (says_cel 2))) (zd rfl (op_eql rfl rfl) (za rfl (wl_nil (st_tn (w_cond_d rfl (fun hc14 => ?_) (fun hc14 => ?_)))))))))
    · -- c14.t
      refine w_seq (w_emp 77 (slO_nil 3 1) ?_)
      refine w_region (zd rfl (op_build tB38o rfl rfl) (wl_op0 [4] rfl rfl rfl (op_store rfl rfl tZ38o (by rfl) (by rfl) (by exact Nat.le_of_ble_eq_true rfl)) ?_))
      rintro _ _ ⟨rfl, rfl⟩
      refine za rfl (wl_nil (st_tn (w_ret (st_br (st_tr (st_ret (vs := [_, _]) [77] Tryz.results8 ⟨⟨_, rfl, Ent.mono (Ent.lab (l := 4) rfl (says_cel 0)) (fun _ h => run_load_agg tA38o h (Nat.le_of_ble_eq_true rfl))⟩, ⟨rfl, trivial⟩⟩ rfl ?_))))))
      refine ⟨[(lab, _)], rfl, ?_⟩
      unfold sumR; rw [if_neg hc8, if_pos hc14]; exact ⟨none, 0, rfl, rfl⟩
    · -- c14.f
      refine w_skip (st_bn (st_tn (w_seq (w_seq (w_region (zd rfl (op_loadA rfl tA38o (Ent.lab (l := 2) rfl (says_cel 0)) (Nat.le_of_ble_eq_true rfl)) (zd rfl (op_loadA rfl tA38o (Ent.lab (l := 3) rfl (says_cel 0)) (Nat.le_of_ble_eq_true rfl)) (wl_op [] rfl rfl rfl rfl (op_fn Tryz.func26 rfl rfl rfl (one_any 22 _ _ _ _ (Sl.app h _) (Sl.app g _) (by omega) (by omega))) ?_))))))))
      rintro _ _ ⟨r22, o22, a22, c22, hro22, rfl, rfl⟩
      refine zm rfl (zd rfl (op_extract rfl rfl) (zd rfl (op_extract rfl rfl) (wl_op [] rfl rfl rfl rfl (op_alloc (l := 6) tN38o) ?_)))
      rintro _ _ ⟨b6, rfl, rfl⟩
      refine wl_op0 [6] rfl rfl rfl (op_store rfl rfl tZ38o (by rfl) (by rfl) (by exact Nat.le_of_ble_eq_true rfl)) ?_
      rintro _ _ ⟨rfl, rfl⟩
      refine za rfl (wl_nil (st_tn (w_seq (w_region (zm rfl (wl_nil (st_tn (w_cond rfl (fun hc25 => ?_) (fun hc25 => ?_)))))))))
      · -- c25.t
        refine w_seq (w_region (zd rfl (op_loadA rfl tA38o (Ent.lab (l := 6) rfl (says_cel 0)) (Nat.le_of_ble_eq_true rfl)) (wl_op0 [4] rfl rfl rfl (op_store rfl rfl tZ38o (by rfl) (by rfl) (by exact Nat.le_of_ble_eq_true rfl)) ?_)))
        rintro _ _ ⟨rfl, rfl⟩
        refine za rfl (wl_nil (st_tn (w_ret (st_tr (st_ret (vs := [_, _]) [22] Tryz.results8 ⟨⟨_, rfl, Ent.mono (Ent.lab (l := 4) rfl (says_cel 0)) (fun _ h => run_load_agg tA38o h (Nat.le_of_ble_eq_true rfl))⟩, ⟨rfl, trivial⟩⟩ rfl ?_)))))
        refine ⟨[(lab, _)], rfl, ?_⟩
        subst hc25; have hj : sumR k fr l k' fr' m = ⟨r22.k, r22.fr, r22.vals, 0⟩ := by unfold sumR; rw [if_neg hc8, if_neg hc14, ← hro22]; rfl
        rw [hj]; exact ⟨_, _, rfl, rfl⟩
      · -- c25.f
        subst hc25
        have ho2 : ¬ (oneR k fr l k' fr' m).2 = true := by rw [← hro22]; simp
        refine w_skip (st_tn (w_seq (w_region (zd rfl (op_loadA rfl tA38o (Ent.lab (l := 2) rfl (says_cel 0)) (Nat.le_of_ble_eq_true rfl)) (zd rfl (op_loadA rfl tA38o (Ent.lab (l := 3) rfl (says_cel 0)) (Nat.le_of_ble_eq_true rfl)) (zd rfl (op_makeFunc rfl rfl) (wl_op [] rfl rfl rfl rfl (op_fn Tryz.func27 rfl rfl rfl (both_any (fs := []) (cs := [.pointer (some ⟨b2, 0, none⟩), .pointer (some ⟨b3, 0, none⟩)]) 30 k fr k' fr' (sumV l fr m fr') (Sl.app h _) (Sl.app g _) hl hm hf hf' Tryz.func28 rfl rfl (fun X s h1 h2 => sum1_any (k := k) (fr := fr) (k' := k') (fr' := fr') s (Ent.app (Ent.lab (l := 2) rfl (says_cel 0)) X) (Ent.app (Ent.lab (l := 3) rfl (says_cel 0)) X) (Sl.app (Sl.app h _) X) (Sl.app (Sl.app g _) X) hl hm hf hf' (by omega) hv hw))) ?_)))))))
        rintro _ _ ⟨a30, c30, rfl, rfl⟩
        refine zd rfl (op_extract rfl rfl) (zd rfl (op_extract rfl rfl) (wl_op0 [4] rfl rfl rfl (op_store rfl rfl tZ38o (by rfl) (by rfl) (by exact Nat.le_of_ble_eq_true rfl)) ?_))
        rintro _ _ ⟨rfl, rfl⟩
        refine za rfl (wl_nil (st_tn (w_ret (st_ret (vs := [_, _]) [30] Tryz.results8 ⟨⟨_, rfl, Ent.mono (Ent.lab (l := 4) rfl (says_cel 0)) (fun _ h => run_load_agg tA38o h (Nat.le_of_ble_eq_true rfl))⟩, ⟨rfl, trivial⟩⟩ rfl ?_))))
        refine ⟨[(lab, _)], rfl, ?_⟩
        have hj : sumR k fr l k' fr' m = bothR k (min fr fr') (max (fr + l.length) (fr' + m.length)) (sumV l fr m fr') := by
          unfold sumR; rw [if_neg hc8, if_neg hc14, if_neg ho2]
        rw [hj]; exact ⟨_, _, rfl, rfl⟩
end Go.Proofs.YtecmigildpkigaaGreat.Ser
namespace Go.Proofs.YtecmigildpkigaaGreat.Ser
open Go Go.SL Go.RowKit
set_option linter.unusedVariables false
set_option linter.unusedSimpArgs false
end Go.Proofs.YtecmigildpkigaaGreat.Ser
namespace Go.Proofs.YtecmigildpkigaaGreat.Ser
open Go Go.SL Go.RowKit
set_option linter.unusedVariables false
set_option linter.unusedSimpArgs false
end Go.Proofs.YtecmigildpkigaaGreat.Ser
namespace Go.Proofs.YtecmigildpkigaaGreat.Ser
open Go Go.SL Go.RowKit
set_option linter.unusedVariables false
set_option linter.unusedSimpArgs false
theorem tF129_2sa : fieldB Tryz.prog 129 2 2 = true := by kernel_rfl
theorem tF27_0sa : fieldB Tryz.prog 27 0 0 = true := by kernel_rfl
theorem tF27_1sa : fieldB Tryz.prog 27 1 1 = true := by kernel_rfl
theorem tF27_2sa : fieldB Tryz.prog 27 2 5 = true := by kernel_rfl
theorem tF56_0sa : fieldB Tryz.prog 56 0 0 = true := by kernel_rfl
theorem tF56_2sa : fieldB Tryz.prog 56 2 2 = true := by kernel_rfl
theorem tO22sa : oneB Tryz.prog 22 = true := by kernel_rfl
theorem tO25sa : oneB Tryz.prog 25 = true := by kernel_rfl
theorem tO5sa : oneB Tryz.prog 5 = true := by kernel_rfl
theorem tO54sa : oneB Tryz.prog 54 = true := by kernel_rfl
theorem tS22sa : sliceB Tryz.prog 22 56 3 = true := by kernel_rfl
theorem tS25sa : sliceB Tryz.prog 25 199 5 = true := by kernel_rfl
theorem tS54sa : sliceB Tryz.prog 54 129 11 = true := by kernel_rfl
structure CallV where
  par : Int
  clk : Int
  knd : Int
  svc : Int
  ver : Int
  opn : Int
  wait : Int
  long : Int
  link : Int
  tag : Int
  fail : Bool
def encCall (c : CallV) : List Value := [.int .u8 c.par, .int .u8 c.clk, .int .u8 c.knd, .int .u8 c.svc, .int .u8 c.ver, .int .u8 c.opn, .int .u8 c.wait, .int .u8 c.long, .int .u8 c.link, .int .u8 c.tag, .bool c.fail]
structure TreeV where
  slot : Int
  start : Int
  a : Option Addr
  c : Nat
  calls : List CallV
def encTree (t : TreeV) : List Value := [.int .u8 t.slot, .int .u8 t.start, .slice t.a t.calls.length t.c]
abbrev SyncV := Int × Int × Int × Int × Int
def encSync (y : SyncV) : List Value := [.int .u8 y.1, .int .u8 y.2.1, .int .u8 y.2.2.1, .int .u8 y.2.2.2.1, .int .u8 y.2.2.2.2]
structure StoryV where
  ta : Option Addr
  tc : Nat
  trees : List TreeV
  o0 : Int
  o1 : Int
  o2 : Int
  o3 : Int
  sa : Option Addr
  sc : Nat
  syncs : List SyncV
  wr : Int
abbrev stV (S : StoryV) : Value := .agg #[.slice S.ta S.trees.length S.tc, .int .i8 S.o0, .int .i8 S.o1, .int .i8 S.o2, .int .i8 S.o3, .slice S.sa S.syncs.length S.sc, .int .u8 S.wr]
abbrev B8 (x : Int) : Prop := 0 ≤ x ∧ x ≤ 255
structure CallOk (c : CallV) : Prop where
  par : B8 c.par
  clk : B8 c.clk
  knd : B8 c.knd
  svc : B8 c.svc
  ver : B8 c.ver
  opn : B8 c.opn
  wait : B8 c.wait
  long : B8 c.long
  link : B8 c.link
  tag : B8 c.tag
structure StB (S : StoryV) : Prop where
  slot : ∀ t ∈ S.trees, B8 t.slot
  start : ∀ t ∈ S.trees, B8 t.start
  call : ∀ t ∈ S.trees, ∀ c ∈ t.calls, CallOk c
  o0 : -128 ≤ S.o0 ∧ S.o0 ≤ 127
  o1 : -128 ≤ S.o1 ∧ S.o1 ≤ 127
  o2 : -128 ≤ S.o2 ∧ S.o2 ≤ 127
  o3 : -128 ≤ S.o3 ∧ S.o3 ≤ 127
  wr : B8 S.wr
structure StOk (σ : World) (F : List Res) (S : StoryV) : Prop where
  b : StB S
  tr : Sl σ F encTree 3 (.slice S.ta S.trees.length S.tc) S.trees
  ca : ∀ t ∈ S.trees, Sl σ F encCall 11 (.slice t.a t.calls.length t.c) t.calls
  sy : Sl σ F encSync 5 (.slice S.sa S.syncs.length S.sc) S.syncs
theorem StOk.app {σ : World} {F : List Res} {S : StoryV} (h : StOk σ F S) (X : List Res) : StOk σ (X ++ F) S := ⟨h.b, h.tr.app X, fun t ht => (h.ca t ht).app X, h.sy.app X⟩
def shortP (S : StoryV) : Prop := (∀ t ∈ S.trees, t.calls.length ≤ 8) ∧ S.trees.length ≤ 3 ∧ S.syncs.length ≤ 6
instance (S : StoryV) : Decidable (shortP S) := by unfold shortP; infer_instance
set_option maxHeartbeats 400000 in
set_option maxRecDepth 100000 in
theorem short_any {σ : World} {F : List Res} {S : StoryV} (hS : StOk σ F S) : FnT Tryz.prog σ F 5 [stV S] [] (fun u ρ => u = .bool (decide (shortP S)) ∧ ρ = []) := by
  refine fn_of 29 Tryz.func5 rfl Tryz.ntmps5 rfl ?_
  have hle := hS.tr.i64
  have hle2 := hS.sy.i64
  refine w_seq (w_region (wl_op [] rfl rfl rfl rfl (op_box (T := 27) (l := 1) rfl) ?_))
  rintro _ _ ⟨b1, rfl, rfl⟩
  refine za rfl (wl_nil (st_tn (w_seq (w_seq (w_region (za rfl (wl_nil (st_tn (w_block ?_)))))))))
  refine w_loopQ (X := Nat) (fun z => z ≤ S.trees.length ∧ ∀ t ∈ S.trees.take z, t.calls.length ≤ 8) (fun z => [(3, .int .i64 (z))]) (fun _ => []) (fun z => S.trees.length - z) (0) [(1, _)] [(1, _)] [1] rfl (rfl) (.cons rfl (.nil _)) (.cons rfl (.nil _)) (by
      try dsimp only
      exact ⟨Nat.zero_le _, by simp⟩) ?_
  rintro i ⟨hi, hn⟩
  refine w_norm2 (by dsimp only [List.cons_append, List.nil_append]) (by dsimp only [List.cons_append, List.nil_append]) ?_
  try dsimp only at hi hn ⊢
  refine w_seq (w_seq (w_region (zm rfl (zd rfl (op_fieldAddr (off := 0) rfl tF27_0sa) (zd rfl (op_load1 rfl tO22sa (Ent.lab (l := 1) rfl (says_cel 0))) (zd rfl (op_lenT rfl tS22sa (Sl.ent (hS.tr.app _))) (zd rfl (op_lss rfl rfl) (wl_nil (st_tn (w_cond_d rfl (fun hc8 => ?_) (fun hc8 => ?_)))))))))))
  · -- c8.t
    obtain ⟨x, hz⟩ := getE (l := S.trees) (i := i) (by omega)
    have hxm := List.mem_of_getElem? hz
    have hcl := (hS.ca x hxm).i64
    refine w_skip (st_tn (w_seq (w_block (w_seq (w_region (zd rfl (op_fieldAddr (off := 0) rfl tF27_0sa) (zd rfl (op_load1 rfl tO22sa (Ent.lab (l := 1) rfl (says_cel 0))) (zm rfl (zd rfl (op_idx rfl rfl tS22sa (Sl.ent (hS.tr.app _)) (by omega)) ?_)))))))))
    refine zd rfl (op_fieldAddr (off := 2) rfl tF56_2sa) (zd rfl (op_ldxf rfl tO54sa (hS.tr.app _) (by assumption) (by rfl)) ?_)
    refine zd rfl (op_lenT rfl tS54sa (Sl.ent ((hS.ca x hxm).app _))) (zd rfl (op_gtr rfl rfl) (wl_nil (st_tn (w_cond_d rfl (fun hc18 => ?_) (fun hc18 => ?_)))))
    · -- c18.t
      refine w_seq (w_region (za rfl (wl_nil (st_tn (w_ret (st_br (st_tr (st_tr (st_br (st_tr (st_ret (vs := [_]) [] Tryz.results5 ⟨rfl, trivial⟩ rfl ?_)))))))))))
      refine ⟨_, rfl, ?_⟩
      rw [decide_eq_false]
      · exact ⟨rfl, rfl⟩
      · intro h; have := h.1 x hxm; omega
    · -- c18.f
      refine w_skip (st_bn (st_tn (w_region (zm rfl (zd rfl (op_add' rfl rfl (by omega)) ?_)))))
      refine za rfl (wl_nil ?_)
      refine st_roundQ (x := i) (i + 1) [1] rfl (rfl) (.cons rfl (.nil _)) (.cons rfl (.nil _)) (by
          try dsimp only
          refine ⟨by omega, ?_⟩
          rw [take_snoc hz]; intro q hq; rcases List.mem_append.1 hq with hq | hq
          · exact hn q hq
          · simp only [List.mem_singleton] at hq; subst hq; omega) (by
          try dsimp only
          omega)
  · -- c8.f
    refine w_exit (st_te ?_)
    refine st_te ?_
    refine st_be (st_tn (w_seq (w_region (zd rfl (op_fieldAddr (off := 0) rfl tF27_0sa) (zd rfl (op_load1 rfl tO22sa (Ent.lab (l := 1) rfl (says_cel 0))) (zd rfl (op_lenT rfl tS22sa (Sl.ent (hS.tr.app _))) (zd rfl (op_leq rfl rfl) (zm rfl (wl_gsplit (t := 23) rfl (fun hg23 => ?_) (fun hg23 => ?_))))))))))
    · -- 23 is True
      refine wl_wanted_det rfl rfl rfl rfl rfl rfl rfl (op_fieldAddr (off := 5) rfl tF27_2sa) (wl_wanted_det rfl rfl rfl rfl rfl rfl rfl (op_load1 rfl tO25sa (Ent.lab (l := 1) rfl (says_cel 5))) (wl_wanted_det rfl rfl rfl rfl rfl rfl rfl (op_lenT rfl tS25sa (Sl.ent (hS.sy.app _))) (wl_wanted_det rfl rfl rfl rfl rfl rfl rfl (op_leq rfl rfl) (zd rfl (op_pick_t rfl rfl) (za rfl (wl_nil (st_tn (w_ret (st_ret (vs := [_]) [] Tryz.results5 ⟨rfl, trivial⟩ rfl ?_)))))))))
      refine ⟨_, rfl, ?_⟩
      rw [take_all (by omega)] at hn
      first | (have e1 : decide (shortP S) = decide ((S.syncs.length : Int) ≤ 6) := by { rw [decide_eq_decide]; exact ⟨fun h => by have := h.2.2; omega, fun h => ⟨hn, by omega, by omega⟩⟩ }; rw [e1]; exact ⟨rfl, rfl⟩) | (rw [decide_eq_false (fun h : shortP S => by have := h.2.1; omega)]; exact ⟨rfl, rfl⟩)
    · -- 23 is False
      refine wl_unwanted rfl rfl rfl rfl rfl rfl rfl rfl (wl_unwanted rfl rfl rfl rfl rfl rfl rfl rfl (wl_unwanted rfl rfl rfl rfl rfl rfl rfl rfl (wl_unwanted rfl rfl rfl rfl rfl rfl rfl rfl (zd rfl (op_pick_f rfl rfl) (za rfl (wl_nil (st_tn (w_ret (st_ret (vs := [_]) [] Tryz.results5 ⟨rfl, trivial⟩ rfl ?_)))))))))
      refine ⟨_, rfl, ?_⟩
      rw [take_all (by omega)] at hn
      first | (have e1 : decide (shortP S) = decide ((S.syncs.length : Int) ≤ 6) := by { rw [decide_eq_decide]; exact ⟨fun h => by have := h.2.2; omega, fun h => ⟨hn, by omega, by omega⟩⟩ }; rw [e1]; exact ⟨rfl, rfl⟩) | (rw [decide_eq_false (fun h : shortP S => by have := h.2.1; omega)]; exact ⟨rfl, rfl⟩)
def kindV (c : CallV) : Int := 1 + c.knd % 5
set_option maxHeartbeats 400000 in
set_option maxRecDepth 100000 in
theorem kind_any {σ : World} {F : List Res} {c : CallV} (hc : CallOk c) : FnT Tryz.prog σ F 61 [.agg (encCall c).toArray] [] (fun u ρ => u = .int .i64 (kindV c) ∧ ρ = []) := by
  refine fn_of 8 Tryz.func61 rfl Tryz.ntmps61 rfl ?_
  have hk := hc.knd
  refine w_seq (w_region (wl_op [] rfl rfl rfl rfl (op_box (T := 129) (l := 1) rfl) ?_))
  rintro _ _ ⟨b1, rfl, rfl⟩
  refine za rfl (wl_nil (st_tn (w_seq (w_region (zd rfl (op_fieldAddr (off := 2) rfl tF129_2sa) (zd rfl (op_load1 rfl tO5sa (Ent.lab (l := 1) rfl (says_cel 2))) (zd rfl (op_remN rfl rfl (by omega) (by omega)) ?_)))))))
  refine zd rfl (op_convI64 rfl (by rw [Tryz.underlying5]; rfl) Tryz.underlying3 (by omega)) ?_
  refine zd rfl (op_add' rfl rfl (by omega)) ?_
  refine za rfl (wl_nil (st_tn (w_ret (st_ret (vs := [_]) [] Tryz.results61 ⟨rfl, trivial⟩ rfl ?_))))
  refine ⟨_, rfl, ?_⟩
  exact ⟨rfl, rfl⟩
def idV (t : TreeV) (k : Nat) : Int := t.slot % 64 * 1048576 + 1 + k
section
variable {P : Program} {σ : World} {n : Nat} {F : List Res} {e : Env} {R : RL} {dst : Option Tmp} {ty : TypeId} {pos : String} {after : Array Edge} {guard : Option (Nat × Bool)}
theorem op_shl20 {t t2 : TypeId} {x y : Operand} {k' : IntKind} {a : Int} (hx : ev e x = some (.int .i64 a)) (hy : ev e y = some (.int k' 20)) (h0 : 0 ≤ a) (ha : a < 256) :
    OpT P σ n F ⟨dst, .binOp .shl t x y t2, ty, pos, after, guard⟩ e [] (Det (.int .i64 (a * 1048576))) :=
  opt_run fun A w hr _ => by
    have h : IntKind.i64.wrap (a * 2 ^ min (20 : Int).toNat IntKind.i64.bits) = a * 1048576 := by
      rw [show (2 : Int) ^ min (20 : Int).toNat IntKind.i64.bits = 1048576 from rfl]
      exact wrap_i64 (by omega)
    simp [execOp, hr.ev hx, hr.ev hy, eqGuard, Sem.run_bind, binOp, shift_shl_any .i64 k' a 20 (by decide)]
    exact h
theorem op_idxArrK {x y : Operand} {p : Addr} {T len k i : Nat} {kk : IntKind} (hx : ev e x = some (.pointer (some p))) (hy : ev e y = some (.int kk i)) (ht : arrB P T len k = true) (hi : i < len) :
    OpT P σ n F ⟨dst, .indexAddr T x y, ty, pos, after, guard⟩ e [] (Det (.pointer (some (p.add (i * k))))) :=
  opt_run fun a w hr ho => by
    unfold arrB at ht
    split at ht
    · rename_i m E hu
      split at ht
      · rename_i inf hinf
        simp only [Bool.and_eq_true, beq_iff_eq] at ht
        obtain ⟨rfl, h2⟩ := ht
        have hsz : (sizeOf E).run P w = .ok k w := by simp [sizeOf, typeInfo, hinf, h2]
        simp [execOp, hr.ev hx, hr.ev hy, Instr.indexAt, asIntOf, Sem.run_bind, run_underlying hu, Instr.sureAddr, hi, hsz]
      · simp at ht
    · simp at ht
end
set_option maxHeartbeats 400000 in
set_option maxRecDepth 100000 in
theorem traceId_any {σ : World} {F : List Res} {S : StoryV} {k : Nat} {t : TreeV} (hS : StOk σ F S) (hsh : shortP S) (hk : S.trees[k]? = some t) : FnT Tryz.prog σ F 15 [stV S, .int .i64 k] [] (fun u ρ => u = .int .i64 (idV t k) ∧ ρ = []) := by
  refine fn_of 17 Tryz.func15 rfl Tryz.ntmps15 rfl ?_
  have hle := hS.tr.i64
  have htm := List.mem_of_getElem? hk
  have hsb := hS.b.slot t htm
  have hkl := (List.getElem?_eq_some_iff.1 hk).1
  have hs3 := hsh.2.1
  refine w_seq (w_region (wl_op [] rfl rfl rfl rfl (op_box (T := 27) (l := 2) rfl) ?_))
  rintro _ _ ⟨b2, rfl, rfl⟩
  refine za rfl (wl_nil (st_tn (w_seq (w_region (zd rfl (op_fieldAddr (off := 0) rfl tF27_0sa) (zd rfl (op_load1 rfl tO22sa (Ent.lab (l := 2) rfl (says_cel 0))) (zm rfl (zd rfl (op_idx rfl rfl tS22sa (Sl.ent (hS.tr.app _)) (by omega)) ?_))))))))
  refine zd rfl (op_fieldAddr (off := 0) rfl tF56_0sa) (zd rfl (op_ldxf rfl tO5sa (hS.tr.app _) (by assumption) (by rfl)) ?_)
  refine zd rfl (op_remN rfl rfl (by omega) (by omega)) ?_
  refine zd rfl (op_convI64 rfl (by rw [Tryz.underlying5]; rfl) Tryz.underlying3 (by omega)) ?_
  refine zd rfl (op_shl20 rfl rfl (by omega) (by omega)) ?_
  refine zd rfl (op_add' rfl rfl (by omega)) ?_
  refine zm rfl (zd rfl (op_add' rfl rfl (by omega)) ?_)
  refine za rfl (wl_nil (st_tn (w_ret (st_ret (vs := [_]) [] Tryz.results15 ⟨rfl, trivial⟩ rfl ?_))))
  refine ⟨_, rfl, ?_⟩
  exact ⟨rfl, rfl⟩
def offO (S : StoryV) (i : Nat) : Int := match i with
  | 0 => S.o0
  | 1 => S.o1
  | 2 => S.o2
  | _ => S.o3
def offV (S : StoryV) (clk : Int) : Int := (offO S ((clk + 3) % 4).toNat).tmod 21
theorem offO_bd {S : StoryV} (h : StB S) (i : Nat) : -128 ≤ offO S i ∧ offO S i ≤ 127 := by
  unfold offO
  split
  · exact h.o0
  · exact h.o1
  · exact h.o2
  · exact h.o3
theorem offV_bd {S : StoryV} (h : StB S) (clk : Int) : -20 ≤ offV S clk ∧ offV S clk ≤ 20 := by
  have h1 := offO_bd h ((clk + 3) % 4).toNat
  unfold offV
  generalize offO S ((clk + 3) % 4).toNat = z at *
  have h2 := Int.tmod_eq_emod (a := z) (b := 21)
  split at h2 <;> omega
theorem tR65a : arrB Tryz.prog 24 4 1 = true := by kernel_rfl
theorem tO64a : oneB Tryz.prog 23 = true := by kernel_rfl
theorem drop_off {S : StoryV} : ∀ {i : Nat}, i < 4 → (stV S).cells.toList.drop (1 + i * 1) = .int .i8 (offO S i) :: (stV S).cells.toList.drop (2 + i)
  | 0, _ => rfl
  | 1, _ => rfl
  | 2, _ => rfl
  | 3, _ => rfl
theorem says_off {b i : Nat} {S : StoryV} {T : TypeId} (hi : i < 4) : Says (cel b (stV S).cells.toList T) (At (({ block := b, off := 0, spot := none } : Addr).add 1 |>.add (i * 1)) (.int .i8 (offO S i) :: (stV S).cells.toList.drop (2 + i))) := by
  rw [show ((({ block := b, off := 0, spot := none } : Addr).add 1).add (i * 1)) = ⟨b, 1 + i * 1, none⟩ by simp [Addr.add]]
  have := says_cel (b := b) (c := (stV S).cells.toList) (T := T) (1 + i * 1)
  rwa [drop_off hi] at this
set_option maxHeartbeats 400000 in
set_option maxRecDepth 100000 in
theorem offset_any {σ : World} {F : List Res} {S : StoryV} {clk : Int} (hS : StOk σ F S) (hc : 1 ≤ clk ∧ clk ≤ 4) : FnT Tryz.prog σ F 43 [stV S, .int .i64 clk] [] (fun u ρ => u = .int .i64 (offV S clk) ∧ ρ = []) := by
  refine fn_of 14 Tryz.func43 rfl Tryz.ntmps43 rfl ?_
  have hob := offO_bd hS.b ((clk + 3) % 4).toNat
  have hi4 : ((clk + 3) % 4).toNat < 4 := by omega
  refine w_seq (w_region (wl_op [] rfl rfl rfl rfl (op_box (T := 27) (l := 2) rfl) ?_))
  rintro _ _ ⟨b2, rfl, rfl⟩
  refine za rfl (wl_nil (st_tn (w_seq (w_region (zm rfl (zd rfl (op_convU64 rfl (by rw [Tryz.underlying3]; rfl) Tryz.underlying98 (by omega)) ?_))))))
  refine zd rfl (op_addU rfl rfl (by omega)) ?_
  refine zd rfl (op_val (v' := .int .u64 ((((clk + 3) % 4).toNat : Nat) : Int)) (by rw [Int.toNat_of_nonneg (by omega)]) (op_remN rfl rfl (by omega) (by omega))) ?_
  refine zd rfl (op_fieldAddr (off := 1) rfl tF27_1sa) (zd rfl (op_idxArrK (i := ((clk + 3) % 4).toNat) rfl rfl tR65a hi4) (zd rfl (op_load1 rfl tO64a (Ent.lab (l := 2) rfl (says_off hi4))) (zd rfl (op_convI64 rfl (by rw [Tryz.underlying23]; rfl) Tryz.underlying3 (by omega)) ?_)))
  refine zd rfl (op_rem rfl rfl (by decide)) ?_
  refine za rfl (wl_nil (st_tn (w_ret (st_ret (vs := [_]) [] Tryz.results43 ⟨rfl, trivial⟩ rfl ?_))))
  refine ⟨_, rfl, ?_⟩
  exact ⟨rfl, rfl⟩
end Go.Proofs.YtecmigildpkigaaGreat.Ser
