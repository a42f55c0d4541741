/- Encoding and decoding are inverse to one another; what is cut off is found; without a program. Conditions: none. -/
import Derived.Test.YtbpihhaiechnbaaM3
namespace Go.DicM
open Go
set_option linter.unusedVariables false
set_option linter.unusedSimpArgs false
theorem u8_of {n : Nat} (h : n ≤ 255) : (UInt8.ofNat n).toNat = n := by simp; omega
theorem u8_back (b : UInt8) : UInt8.ofNat b.toNat = b := by simp
/-- The bytes of k strings from the index i on. -/
def encF (d : List Bs) (i : Nat) : Nat → List UInt8
  | 0 => []
  | k + 1 => encAt d i ++ encF d (i + 1) k
theorem encF_snoc (d : List Bs) : ∀ (k i : Nat), encF d i (k + 1) = encF d i k ++ encAt d (i + k)
  | 0, i => by simp [encF]
  | k + 1, i => by
    have ih := encF_snoc d k (i + 1)
    show encAt d i ++ encF d (i + 1) (k + 1) = (encAt d i ++ encF d (i + 1) k) ++ _
    rw [ih, List.append_assoc, show i + (k + 1) = i + 1 + k by omega]
theorem enc_eq (d : List Bs) : enc d = UInt8.ofNat (d.length / 256) :: UInt8.ofNat (d.length % 256) :: encF d 0 d.length := by
  have key : ∀ k, encTo d k = UInt8.ofNat (d.length / 256) :: UInt8.ofNat (d.length % 256) :: encF d 0 k := by
    intro k
    induction k with
    | zero => rfl
    | succ k ih =>
      show encTo d k ++ encAt d k = _
      rw [ih, encF_snoc, Nat.zero_add]; rfl
  exact key d.length
/-- The string before the one with an index. -/
def pre (d : List Bs) (i : Nat) : Bs := if 0 < i then d.getD (i - 1) [] else []
theorem step_ok {d : List Bs} {i : Nat} {x : Bs} (hd : Inc d) (hs : ∀ x ∈ d, x.length ≤ 255) (hx : d[i]? = some x) (t : List UInt8) : dStep i (pre d i) (encAt d i ++ t) = .ok (x, t) := by
  have hgx : d.getD i [] = x := by rw [List.getD_eq_getElem?_getD, hx]; rfl
  have hxl : x.length ≤ 255 := hs x (List.mem_of_getElem? hx)
  have hord : ¬ (0 < i ∧ x ≤ pre d i) := by
    rintro ⟨h0, h1⟩
    have hlt := (List.getElem?_eq_some_iff.1 hx).1
    have hy : d[i - 1]? = some d[i - 1] := List.getElem?_eq_getElem (by omega)
    unfold pre at h1
    rw [if_pos h0, List.getD_eq_getElem?_getD, hy] at h1
    exact le_iff.1 h1 (hd.get hy hx (by omega))
  by_cases h5 : i % 16 ≠ 0
  · have hn : nAt d i = common (pre d i) x := by unfold nAt pre; rw [if_pos h5, if_pos (by omega), hgx]
    obtain ⟨c1, c2⟩ := common_le (pre d i) x
    have hc : (UInt8.ofNat (common (pre d i) x)).toNat = common (pre d i) x := u8_of (by omega)
    have hl : (UInt8.ofNat (x.length - common (pre d i) x)).toNat = x.length - common (pre d i) x := u8_of (by omega)
    have hxx : (pre d i).take (common (pre d i) x) ++ (x.drop (common (pre d i) x) ++ t).take (x.length - common (pre d i) x) = x := by
      have hdl : (x.drop (common (pre d i) x)).length = x.length - common (pre d i) x := by simp
      rw [List.take_append_of_le_length (Nat.le_of_eq hdl.symm), List.take_of_length_le (l := x.drop _) (Nat.le_of_eq hdl), common_take, List.take_append_drop]
    have htt : (x.drop (common (pre d i) x) ++ t).drop (x.length - common (pre d i) x) = t := by
      have : (x.drop (common (pre d i) x)).length = x.length - common (pre d i) x := by simp
      rw [← this, List.drop_left]
    unfold encAt
    rw [hgx, hn, if_pos h5]
    unfold dStep
    rw [if_pos h5]
    simp only [List.cons_append, List.nil_append, hc]
    unfold dBody
    simp only [hl, hxx, htt]
    rw [if_neg (by simp), if_neg (by omega), if_neg (by omega), if_neg hord, if_neg (by simp)]
  · have hn : nAt d i = 0 := by unfold nAt; rw [if_neg h5]
    have hl : (UInt8.ofNat (x.length - 0)).toNat = x.length := by rw [Nat.sub_zero]; exact u8_of hxl
    unfold encAt
    rw [hgx, hn, if_neg h5]
    unfold dStep
    rw [if_neg h5]
    simp only [List.nil_append, List.drop_zero, List.cons_append]
    unfold dBody
    have hxx : (pre d i).take 0 ++ (x ++ t).take x.length = x := by simp
    have htt : (x ++ t).drop x.length = t := by simp
    simp only [hl, hxx, htt]
    rw [if_neg (by simp), if_neg (by omega), if_neg (by omega), if_neg hord, if_neg (fun h => h5 h.1)]
theorem pre_succ {d : List Bs} {i : Nat} {x : Bs} (hx : d[i]? = some x) : pre d (i + 1) = x := by
  unfold pre; rw [if_pos (by omega), Nat.add_sub_cancel, List.getD_eq_getElem?_getD, hx]; rfl
theorem decR_enc {d : List Bs} (hd : Inc d) (hs : ∀ x ∈ d, x.length ≤ 255) : ∀ (k i : Nat), i + k = d.length → decR k i (pre d i) (encF d i k) (d.take i) = (d, 0)
  | 0, i, h => by unfold decR encF; rw [if_pos rfl, List.take_of_length_le (by omega)]
  | k + 1, i, h => by
    have hx : d[i]? = some d[i] := List.getElem?_eq_getElem (by omega)
    have ih := decR_enc hd hs k (i + 1) (by omega)
    unfold decR
    rw [show encF d i (k + 1) = encAt d i ++ encF d (i + 1) k from rfl, step_ok hd hs hx]
    simp only
    rw [pre_succ hx, take_snoc hx] at ih
    exact ih
theorem head_n {n : Nat} (h : n ≤ 4096) : (UInt8.ofNat (n / 256)).toNat * 256 + (UInt8.ofNat (n % 256)).toNat = n := by
  rw [u8_of (by omega), u8_of (by omega)]; omega
theorem dec_enc {d : List Bs} (hd : Inc d) (hs : ∀ x ∈ d, x.length ≤ 255) (hl : d.length ≤ 4096) : dec (enc d) = (d, 0) := by
  rw [enc_eq]; unfold dec; simp only
  rw [head_n hl, if_neg (by omega)]
  exact decR_enc hd hs d.length 0 (by omega)
/-- What a step has read. -/
theorem dbody_inv {i has : Nat} {prev s x t : Bs} (h : dBody i has prev s = .ok (x, t)) : x.length ≤ 255 ∧ has ≤ x.length ∧ s = UInt8.ofNat (x.length - has) :: x.drop has ++ t ∧ ¬ (0 < i ∧ x ≤ prev) ∧ (i % 16 ≠ 0 → common prev x = has) := by
  unfold dBody at h
  split at h
  · simp at h
  · rename_i b r
    split at h
    · simp at h
    · split at h
      · simp at h
      · split at h
        · simp at h
        · split at h
          · simp at h
          · split at h
            · simp at h
            · rename_i h1 h2 h3 h4 h5
              simp only [Except.ok.injEq, Prod.mk.injEq] at h
              obtain ⟨rfl, rfl⟩ := h
              have hlen : (prev.take has ++ r.take b.toNat).length = has + b.toNat := by simp; omega
              refine ⟨by omega, by omega, ?_, h4, fun h6 => Classical.byContradiction fun h7 => h5 ⟨h6, h7⟩⟩
              have e1 : (prev.take has ++ r.take b.toNat).drop has = r.take b.toNat := by
                have : (prev.take has).length = has := by simp; omega
                exact List.drop_left' this
              rw [hlen, show has + b.toNat - has = b.toNat by omega, u8_back, e1, List.cons_append, List.take_append_drop]
theorem decR_inv : ∀ (k i : Nat) (prev s : Bs) (out d : List Bs), decR k i prev s out = (d, 0) → out.length = i → prev = pre out i →
    d.length = i + k ∧ d.take i = out ∧ s = encF d i k ∧ ∀ j, i ≤ j → j < i + k → (d.getD j []).length ≤ 255 ∧ ¬ (0 < j ∧ d.getD j [] ≤ d.getD (j - 1) [])
  | 0, i, prev, s, out, d, h, ho, hp => by
    unfold decR at h
    split at h
    · rename_i hs
      simp only [Prod.mk.injEq, and_true] at h
      subst h; subst hs
      exact ⟨by omega, List.take_of_length_le (by omega), rfl, fun j h1 h2 => by omega⟩
    · simp at h
  | k + 1, i, prev, s, out, d, h, ho, hp => by
    unfold decR at h
    split at h
    · rename_i e he
      simp only [Prod.mk.injEq] at h
      obtain ⟨_, rfl⟩ := h
      exfalso
      unfold dStep at he
      have hb : ∀ (has : Nat) (s : Bs), dBody i has prev s ≠ .error 0 := fun has s hb => by
        unfold dBody at hb
        split at hb
        · simp at hb
        · repeat (split at hb; · simp at hb)
          simp at hb
      split at he
      · split at he
        · simp at he
        · exact hb _ _ he
      · exact hb _ _ he
    · rename_i x t he
      have hpre : pre (out ++ [x]) (i + 1) = x := by
        unfold pre; rw [if_pos (by omega), Nat.add_sub_cancel, List.getD_eq_getElem?_getD, List.getElem?_append_right (by omega), ho, Nat.sub_self]; rfl
      obtain ⟨h1, h2, h3, h4⟩ := decR_inv k (i + 1) x t (out ++ [x]) d h (by simp [ho]) hpre.symm
      have hdi : d[i]? = some x := by
        have : (d.take (i + 1))[i]? = some x := by rw [h2, List.getElem?_append_right (by omega), ho, Nat.sub_self]; rfl
        rw [List.getElem?_take] at this; simpa using this
      have hgx : d.getD i [] = x := by rw [List.getD_eq_getElem?_getD, hdi]; rfl
      have htk : d.take i = out := by
        have := congrArg (List.take i) h2
        rw [List.take_take, Nat.min_eq_left (by omega), List.take_left' ho] at this
        exact this
      have hprev : 0 < i → prev = d.getD (i - 1) [] := fun h0 => by
        rw [hp]; unfold pre; rw [if_pos h0, ← htk]
        rw [List.getD_eq_getElem?_getD, List.getD_eq_getElem?_getD, List.getElem?_take, if_pos (by omega)]
      have main : s = encAt d i ++ t ∧ x.length ≤ 255 ∧ ¬ (0 < i ∧ x ≤ prev) := by
        unfold dStep at he
        split at he
        · rename_i h5
          split at he
          · simp at he
          · rename_i g r
            obtain ⟨q1, q2, q3, q4, q5⟩ := dbody_inv he
            have hc := q5 h5
            have hn : nAt d i = g.toNat := by unfold nAt; rw [if_pos h5, hgx, ← hprev (by omega), hc]
            refine ⟨?_, q1, q4⟩
            unfold encAt
            rw [hgx, hn, if_pos h5, u8_back, q3]; rfl
        · rename_i h5
          obtain ⟨q1, q2, q3, q4, q5⟩ := dbody_inv he
          have hn : nAt d i = 0 := by unfold nAt; rw [if_neg h5]
          refine ⟨?_, q1, q4⟩
          unfold encAt
          rw [hgx, hn, if_neg h5, q3]; rfl
      obtain ⟨m1, m2, m3⟩ := main
      refine ⟨by omega, htk, ?_, fun j hj1 hj2 => ?_⟩
      · rw [m1, h3]; rfl
      · rcases Nat.lt_or_eq_of_le hj1 with hj | hj
        · exact h4 j hj (by omega)
        · subst hj
          rw [hgx]
          refine ⟨m2, fun hq => m3 ⟨hq.1, ?_⟩⟩
          rw [hprev hq.1]; exact hq.2
theorem dec_inv {s : Bs} {d : List Bs} (h : dec s = (d, 0)) : enc d = s ∧ Inc d ∧ (∀ x ∈ d, x.length ≤ 255) ∧ d.length ≤ 4096 := by
  match s, h with
  | [], h => simp [dec] at h
  | [a], h => simp [dec] at h
  | a :: b :: r, h =>
    unfold dec at h
    simp only at h
    split at h
    · simp at h
    · rename_i hn
      obtain ⟨h1, _, h3, h4⟩ := decR_inv _ 0 [] r [] d h rfl rfl
      rw [Nat.zero_add] at h1 h4
      have ha := UInt8.toNat_lt a
      have hb := UInt8.toNat_lt b
      refine ⟨?_, ?_, ?_, by omega⟩
      · rw [enc_eq, h1, show (a.toNat * 256 + b.toNat) / 256 = a.toNat by omega, show (a.toNat * 256 + b.toNat) % 256 = b.toNat by omega, u8_back, u8_back, ← h3]
      · refine Inc.of_next fun i x y hx hy => ?_
        have hlt := (List.getElem?_eq_some_iff.1 hy).1
        have := (h4 (i + 1) (Nat.zero_le _) (by omega)).2
        rw [List.getD_eq_getElem?_getD, hy, Nat.add_sub_cancel, List.getD_eq_getElem?_getD, hx] at this
        rcases lt_tri x y with h5 | h5 | h5
        · exact h5
        · subst h5; exact absurd ⟨by omega, le_iff.2 (lt_irrefl x)⟩ this
        · exact absurd ⟨by omega, lt_le h5⟩ this
      · intro x hx
        obtain ⟨i, hi⟩ := List.mem_iff_getElem?.1 hx
        have := (h4 i (Nat.zero_le _) (by have := (List.getElem?_eq_some_iff.1 hi).1; omega)).1
        rwa [List.getD_eq_getElem?_getD, hi] at this
/-! ### What is cut off -/
theorem body_cut {i has : Nat} {prev w : Bs} {b : UInt8} (h : w.length < b.toNat) : dBody i has prev (b :: w) = .error 4 := by unfold dBody; simp only; rw [if_pos h]
theorem step_cut {d : List Bs} {i m : Nat} {prev : Bs} (hs : (d.getD i []).length ≤ 255) (hm : m < (encAt d i).length) : dStep i prev ((encAt d i).take m) = .error 4 := by
  have hle := nAt_le d i
  have hl : (UInt8.ofNat ((d.getD i []).length - nAt d i)).toNat = (d.getD i []).length - nAt d i := u8_of (by omega)
  have body : ∀ (has m : Nat) , m < 1 + ((d.getD i []).length - nAt d i) → dBody i has prev ((UInt8.ofNat ((d.getD i []).length - nAt d i) :: (d.getD i []).drop (nAt d i)).take m) = .error 4 := fun has m hm => by
    cases m with
    | zero => rfl
    | succ m => rw [List.take_succ_cons]; exact body_cut (by rw [hl, List.length_take, List.length_drop]; omega)
  have hlen := encAt_len d i
  unfold encAt at hm ⊢
  unfold dStep
  by_cases h5 : i % 16 ≠ 0
  · rw [if_pos h5] at hm hlen ⊢
    rw [if_pos h5]
    simp only [List.cons_append, List.nil_append] at hm ⊢
    cases m with
    | zero => rfl
    | succ m =>
      rw [List.take_succ_cons]
      exact body _ m (by simp only [List.length_cons, List.length_drop] at hm; omega)
  · rw [if_neg h5] at hm hlen ⊢
    rw [if_neg h5]
    simp only [List.nil_append] at hm ⊢
    exact body _ m (by simp only [List.length_cons, List.length_drop] at hm; omega)
theorem decR_cut {d : List Bs} (hd : Inc d) (hs : ∀ x ∈ d, x.length ≤ 255) : ∀ (k i m : Nat) (out : List Bs), i + k = d.length → m < (encF d i k).length → decR k i (pre d i) ((encF d i k).take m) out = ([], 4)
  | 0, i, m, out, h, hm => by simp [encF] at hm
  | k + 1, i, m, out, h, hm => by
    have hx : d[i]? = some d[i] := List.getElem?_eq_getElem (by omega)
    have hgx : d.getD i [] = d[i] := by rw [List.getD_eq_getElem?_getD, hx]; rfl
    rw [show encF d i (k + 1) = encAt d i ++ encF d (i + 1) k from rfl] at hm ⊢
    rw [List.length_append] at hm
    unfold decR
    by_cases hlt : m < (encAt d i).length
    · rw [List.take_append_of_le_length (by omega), step_cut (by rw [hgx]; exact hs _ (List.getElem_mem _)) hlt]
    · rw [List.take_append, List.take_of_length_le (by omega), step_ok hd hs hx]
      simp only
      have := decR_cut hd hs k (i + 1) (m - (encAt d i).length) (out ++ [d[i]]) (by omega) (by omega)
      rw [pre_succ hx] at this
      exact this
theorem dec_cut {d : List Bs} (hd : Inc d) (hs : ∀ x ∈ d, x.length ≤ 255) (hl : d.length ≤ 4096) {m : Nat} (hm : m < (enc d).length) : dec ((enc d).take m) = ([], 4) := by
  rw [enc_eq] at hm ⊢
  match m, hm with
  | 0, _ => rfl
  | 1, _ => rfl
  | m + 2, hm =>
    rw [List.take_succ_cons, List.take_succ_cons]
    unfold dec; simp only
    rw [head_n hl, if_neg (by omega)]
    exact decR_cut hd hs d.length 0 m [] (by omega) (by simpa using hm)
end Go.DicM
