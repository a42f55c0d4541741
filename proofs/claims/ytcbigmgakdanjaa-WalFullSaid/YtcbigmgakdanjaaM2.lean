/- The binary form of numbers and its reader, without a program. Conditions: none. -/
namespace Go.RdM
set_option linter.unusedVariables false
set_option linter.unusedSimpArgs false
abbrev Bs := List UInt8
/-- The bytes of a number, the greatest first. -/
def be (x : Nat) : Bs := if h : x = 0 then [] else be (x / 256) ++ [UInt8.ofNat x]
termination_by x
decreasing_by omega
theorem be_zero : be 0 = [] := by rw [be, dif_pos rfl]
theorem be_pos {x : Nat} (h : 0 < x) : be x = be (x / 256) ++ [UInt8.ofNat x] := by rw [be, dif_neg (by omega)]
theorem len_be : ∀ (k x : Nat), x < 256 ^ k → (be x).length ≤ k
  | 0, x, h => by
    have : x = 0 := by simpa using h
    subst this; rw [be_zero]; simp
  | k + 1, x, h => by
    rcases Nat.eq_zero_or_pos x with h0 | h0
    · subst h0; rw [be_zero]; simp
    · rw [be_pos h0]
      have := len_be k (x / 256) (by rw [Nat.pow_succ] at h; omega)
      simp; omega
theorem snoc_ind {α : Type} {P : List α → Prop} (h0 : P []) (h1 : ∀ l b, P l → P (l ++ [b])) (l : List α) : P l := by
  have h : ∀ l : List α, P l.reverse := fun l => by
    induction l with
    | nil => exact h0
    | cons b l ih => rw [List.reverse_cons]; exact h1 _ _ ih
  have := h l.reverse
  rwa [List.reverse_reverse] at this
/-- The value of bytes. -/
def val (l : List Nat) : Nat := l.foldl (fun m b => m * 256 + b) 0
theorem val_nil : val [] = 0 := rfl
theorem val_snoc (l : List Nat) (b : Nat) : val (l ++ [b]) = val l * 256 + b := by unfold val; rw [List.foldl_append]; rfl
theorem val_lt : ∀ {l : List Nat}, (∀ b ∈ l, b < 256) → val l < 256 ^ l.length := by
  intro l
  refine snoc_ind (P := fun l => (∀ b ∈ l, b < 256) → val l < 256 ^ l.length) (fun _ => by simp [val_nil]) (fun l b ih => ?_) l
  · intro h
    rw [val_snoc, List.length_append, List.length_singleton, Nat.pow_succ]
    have h1 := ih fun c hc => h c (by simp [hc])
    have h2 := h b (by simp)
    omega
theorem val_be (x : Nat) : val ((be x).map UInt8.toNat) = x := by
  induction x using Nat.strongRecOn with
  | _ x ih =>
    rcases Nat.eq_zero_or_pos x with h0 | h0
    · subst h0; rw [be_zero]; rfl
    · rw [be_pos h0, List.map_append, List.map_singleton, val_snoc, ih (x / 256) (by omega)]
      have : (UInt8.ofNat x).toNat = x % 256 := by simp
      rw [this]; omega
theorem be_head {x : Nat} : ∀ b, (be x).head? = some b → b ≠ 0 := by
  induction x using Nat.strongRecOn with
  | _ x ih =>
    intro b hb
    rcases Nat.eq_zero_or_pos x with h0 | h0
    · subst h0; rw [be_zero] at hb; simp at hb
    · rw [be_pos h0] at hb
      rcases Nat.eq_zero_or_pos (x / 256) with h1 | h1
      · rw [h1, be_zero] at hb
        simp at hb; subst hb
        intro h2
        have := congrArg UInt8.toNat h2
        simp at this; omega
      · rw [be_pos h1] at hb
        have hx := ih (x / 256) (by omega) b (by rw [be_pos h1]; simpa using hb)
        exact hx
theorem val_pos {l : List Nat} (h : l.head? ≠ some 0) (hl : l ≠ []) : 0 < val l := by
  revert h hl
  refine snoc_ind (P := fun l : List Nat => l.head? ≠ some 0 → l ≠ [] → 0 < val l) (fun _ hl => absurd rfl hl) (fun l b ih => ?_) l
  · intro h hl
    rw [val_snoc]
    cases l with
    | nil => simp at h; simp [val_nil]; omega
    | cons c l =>
      have := ih (by simpa using h) (by simp)
      omega
theorem be_val {l : Bs} (h : l.head? ≠ some 0) : be (val (l.map UInt8.toNat)) = l := by
  revert h
  refine snoc_ind (P := fun l : Bs => l.head? ≠ some 0 → be (val (l.map UInt8.toNat)) = l) (fun _ => by rw [List.map_nil, val_nil, be_zero]) (fun l b ih => ?_) l
  · intro h
    have hb := b.toNat_lt
    have hp : 0 < val ((l ++ [b]).map UInt8.toNat) := val_pos (by
      cases l with
      | nil => simp at h ⊢; intro hh; exact h (UInt8.toNat_inj.1 (by simpa using hh))
      | cons c l => simp at h ⊢; intro hh; exact h (UInt8.toNat_inj.1 (by simpa using hh))) (by simp)
    rw [be_pos hp]
    have h1 : val ((l ++ [b]).map UInt8.toNat) = val (l.map UInt8.toNat) * 256 + b.toNat := by rw [List.map_append, List.map_singleton, val_snoc]
    rw [h1]
    have h2 : (val (l.map UInt8.toNat) * 256 + b.toNat) / 256 = val (l.map UInt8.toNat) := by omega
    rw [h2]
    have h3 : UInt8.ofNat (val (l.map UInt8.toNat) * 256 + b.toNat) = b := by
      apply UInt8.toNat_inj.1
      simp
    rw [h3]
    congr 1
    cases l with
    | nil => rw [List.map_nil, val_nil, be_zero]
    | cons c l => exact ih (by simpa using h)
/-- The form of a number that is not negative. -/
def encN (x : Int) : Bs := UInt8.ofNat (128 + (be x.toNat).length) :: be x.toNat
theorem len_encN (x : Int) : (encN x).length = (be x.toNat).length + 1 := by unfold encN; simp
theorem encN_le {x : Int} (h : x ≤ 9223372036854775807) : (encN x).length ≤ 9 := by
  rw [len_encN]; have := len_be 8 x.toNat (by omega); omega
/-- A byte as it is read: its complement for a number that is negative. -/
def flp (neg : Bool) (b : UInt8) : Nat := if neg = true then 255 - b.toNat else b.toNat
theorem flp_lt (neg : Bool) (b : UInt8) : flp neg b < 256 := by unfold flp; have := b.toNat_lt; split <;> omega
def szB (b : Nat) : Nat := if b < 128 then 128 - b else b - 128
/-- The bytes of a number at an offset, as they are read. -/
def raw (s : Bs) (at_ k : Nat) (neg : Bool) : List Nat := ((s.drop (at_ + 1)).take k).map (flp neg)
theorem len_raw {s : Bs} {at_ k : Nat} {neg : Bool} (h : k ≤ s.length - (at_ + 1)) : (raw s at_ k neg).length = k := by unfold raw; simp; omega
theorem raw_zero (s : Bs) (at_ : Nat) (neg : Bool) : raw s at_ 0 neg = [] := by unfold raw; simp
theorem raw_succ {s : Bs} {at_ k : Nat} {neg : Bool} {b : UInt8} (h : s[at_ + 1 + k]? = some b) : raw s at_ (k + 1) neg = raw s at_ k neg ++ [flp neg b] := by
  unfold raw
  rw [List.take_add_one, List.getElem?_drop, h]; simp
theorem raw_lt (s : Bs) (at_ k : Nat) (neg : Bool) : ∀ b ∈ raw s at_ k neg, b < 256 := by
  intro b hb
  unfold raw at hb
  obtain ⟨c, _, rfl⟩ := List.mem_map.1 hb
  exact flp_lt neg c
/-- Reads a number at an offset: the number, the offset behind it, the error. -/
def num (s : Bs) (at_ : Nat) : Int × Nat × Int :=
  match s[at_]? with
  | none => (0, 0, 4)
  | some b =>
    let k := szB b.toNat
    let neg := decide (b.toNat < 128)
    if 8 < k then (0, 0, 3)
    else if s.length - (at_ + 1) < k then (0, 0, 4)
    else if (raw s at_ k neg).head? = some 0 then (0, 0, 3)
    else if 9223372036854775807 + (if neg = true then 1 else 0) < val (raw s at_ k neg) then (0, 0, 3)
    else (if neg = true then -(val (raw s at_ k neg) : Int) else val (raw s at_ k neg), at_ + 1 + k, 0)
theorem num_none {s : Bs} {at_ : Nat} (h : s.length ≤ at_) : num s at_ = (0, 0, 4) := by unfold num; rw [List.getElem?_eq_none h]
theorem num_some {s : Bs} {at_ : Nat} {b : UInt8} (h : s[at_]? = some b) : num s at_ =
    if 8 < szB b.toNat then (0, 0, 3)
    else if s.length - (at_ + 1) < szB b.toNat then (0, 0, 4)
    else if (raw s at_ (szB b.toNat) (decide (b.toNat < 128))).head? = some 0 then (0, 0, 3)
    else if 9223372036854775807 + (if decide (b.toNat < 128) = true then 1 else 0) < val (raw s at_ (szB b.toNat) (decide (b.toNat < 128))) then (0, 0, 3)
    else (if decide (b.toNat < 128) = true then -(val (raw s at_ (szB b.toNat) (decide (b.toNat < 128))) : Int) else val (raw s at_ (szB b.toNat) (decide (b.toNat < 128))), at_ + 1 + szB b.toNat, 0) := by unfold num; rw [h]
/-- What a number that was read keeps. -/
theorem num_bd (s : Bs) (at_ : Nat) : (num s at_).2.1 ≤ s.length ∧ -9223372036854775808 ≤ (num s at_).1 ∧ (num s at_).1 ≤ 9223372036854775807 ∧ ((num s at_).2.2 = 0 ∧ at_ < (num s at_).2.1 ∨ (num s at_).2.2 = 3 ∨ (num s at_).2.2 = 4) ∧ ((num s at_).2.2 ≠ 0 → num s at_ = (0, 0, (num s at_).2.2)) := by
  cases hb : s[at_]? with
  | none => rw [num_none (List.getElem?_eq_none_iff.1 hb)]; simp
  | some b =>
    have hlt := (List.getElem?_eq_some_iff.1 hb).1
    rw [num_some hb]
    obtain ⟨neg, hneg⟩ : ∃ neg, neg = decide (b.toNat < 128) := ⟨_, rfl⟩
    rw [← hneg]
    by_cases h1 : 8 < szB b.toNat
    · rw [if_pos h1]; simp
    · rw [if_neg h1]
      by_cases h2 : s.length - (at_ + 1) < szB b.toNat
      · rw [if_pos h2]; simp
      · rw [if_neg h2]
        by_cases h3 : (raw s at_ (szB b.toNat) neg).head? = some 0
        · rw [if_pos h3]; simp
        · rw [if_neg h3]
          by_cases h4 : 9223372036854775807 + (if neg = true then 1 else 0) < val (raw s at_ (szB b.toNat) neg)
          · rw [if_pos h4]; simp
          · rw [if_neg h4]
            refine ⟨by show at_ + 1 + _ ≤ _; omega, ?_, ?_, .inl ⟨rfl, by show at_ < at_ + 1 + _; omega⟩, fun h => absurd rfl h⟩
            · cases neg with
              | true => (simp at h4 ⊢) <;> omega
              | false => (simp at h4 ⊢) <;> omega
            · cases neg with
              | true => (simp at h4 ⊢) <;> omega
              | false => (simp at h4 ⊢) <;> omega
theorem size_first {x : Nat} (h : x ≤ 8) : (UInt8.ofNat (128 + x)).toNat = 128 + x := by simp; omega
theorem flp_false : ∀ l : Bs, l.map (flp false) = l.map UInt8.toNat := fun l => List.map_congr_left fun b _ => by unfold flp; simp
/-- A form is read again. -/
theorem num_enc {p q : Bs} {x : Int} (h : 0 ≤ x ∧ x ≤ 9223372036854775807) : num (p ++ encN x ++ q) p.length = (x, p.length + (encN x).length, 0) := by
  have hk := len_be 8 x.toNat (by omega)
  obtain ⟨k, hkk⟩ : ∃ k, k = (be x.toNat).length := ⟨_, rfl⟩
  rw [← hkk] at hk
  have hb : (p ++ encN x ++ q)[p.length]? = some (UInt8.ofNat (128 + k)) := by
    rw [List.append_assoc, List.getElem?_append_right (Nat.le_refl _)]
    unfold encN; rw [← hkk]; simp
  have hf := size_first hk
  have hs : szB (128 + k) = k := by unfold szB; rw [if_neg (by omega)]; omega
  have hn : decide (128 + k < 128) = false := by simp
  have hr : raw (p ++ encN x ++ q) p.length k false = (be x.toNat).map UInt8.toNat := by
    unfold raw
    have : (p ++ encN x ++ q).drop (p.length + 1) = be x.toNat ++ q := by
      rw [List.append_assoc, List.drop_append]
      simp [encN]
    rw [this, flp_false, hkk, List.take_left]
  have hh : ((be x.toNat).map UInt8.toNat).head? ≠ some 0 := by
    rw [List.head?_map]
    intro hh
    cases hq : (be x.toNat).head? with
    | none => rw [hq] at hh; simp at hh
    | some c =>
      rw [hq] at hh
      simp only [Option.map_some, Option.some.injEq] at hh
      exact be_head c hq (UInt8.toNat_inj.1 (by simpa using hh))
  have hv := val_be x.toNat
  have hle : (encN x).length = k + 1 := by rw [len_encN, ← hkk]
  rw [num_some hb, hf, hs, hn, hr, if_neg (by omega), if_neg (by simp [hle]; omega), if_neg hh, hv, if_neg (by simp; omega), hle]
  simp; omega
/-- A number that is read, and is not negative, stands there in its form. -/
theorem enc_num {s : Bs} {at_ nx : Nat} {x : Int} (h : num s at_ = (x, nx, 0)) (hx : 0 ≤ x) : nx = at_ + (encN x).length ∧ s.drop at_ = encN x ++ s.drop nx := by
  cases hb : s[at_]? with
  | none => rw [num_none (List.getElem?_eq_none_iff.1 hb)] at h; simp at h
  | some b =>
    have hlt := (List.getElem?_eq_some_iff.1 hb).1
    have hbe := (List.getElem?_eq_some_iff.1 hb).2
    rw [num_some hb] at h
    by_cases h1 : 8 < szB b.toNat
    · rw [if_pos h1] at h; simp at h
    · rw [if_neg h1] at h
      by_cases h2 : s.length - (at_ + 1) < szB b.toNat
      · rw [if_pos h2] at h; simp at h
      · rw [if_neg h2] at h
        by_cases h3 : (raw s at_ (szB b.toNat) (decide (b.toNat < 128))).head? = some 0
        · rw [if_pos h3] at h; simp at h
        · rw [if_neg h3] at h
          by_cases h4 : 9223372036854775807 + (if decide (b.toNat < 128) = true then 1 else 0) < val (raw s at_ (szB b.toNat) (decide (b.toNat < 128)))
          · rw [if_pos h4] at h; simp at h
          · rw [if_neg h4] at h
            simp only [Prod.mk.injEq, and_true] at h
            obtain ⟨hx', hnx⟩ := h
            have hl := len_raw (s := s) (at_ := at_) (k := szB b.toNat) (neg := decide (b.toNat < 128)) (by omega)
            by_cases h5 : b.toNat < 128
            · rw [if_pos (by simpa using h5)] at hx'
              have := val_pos h3 (by
                intro hh
                have := congrArg List.length hh
                rw [hl] at this
                unfold szB at this; rw [if_pos h5] at this; simp at this; omega)
              omega
            · rw [if_neg (by simpa using h5)] at hx'
              have hd : decide (b.toNat < 128) = false := by simpa using h5
              have hsz : szB b.toNat = b.toNat - 128 := by unfold szB; rw [if_neg h5]
              rw [hd] at hx' h3 hl
              have hrw : raw s at_ (szB b.toNat) false = ((s.drop (at_ + 1)).take (szB b.toNat)).map UInt8.toNat := flp_false _
              have hbe2 : be x.toNat = (s.drop (at_ + 1)).take (szB b.toNat) := by
                rw [← hx', hrw, Int.toNat_natCast]
                refine be_val fun hh => h3 ?_
                rw [hrw, List.head?_map, hh]; rfl
              have hlen : (be x.toNat).length = szB b.toNat := by rw [hbe2]; simp; omega
              have hfst : UInt8.ofNat (128 + (be x.toNat).length) = b := by
                rw [hlen, hsz]
                have := b.toNat_lt
                apply UInt8.toNat_inj.1
                simp; omega
              refine ⟨by rw [len_encN, hlen]; omega, ?_⟩
              have e1 : s.drop at_ = b :: s.drop (at_ + 1) := by rw [← hbe]; exact List.drop_eq_getElem_cons hlt
              rw [e1]
              unfold encN
              rw [hfst, List.cons_append]
              congr 1
              have e2 : (s.drop (at_ + 1)).drop (szB b.toNat) = s.drop nx := by rw [List.drop_drop, hnx]
              rw [hbe2, ← e2, List.take_append_drop]
/-- Where a reader is, and its first error. -/
structure Rd where
  at_ : Nat
  e : Int
/-- Reads a number. -/
def rdN (s : Bs) (r : Rd) : Int × Rd := if r.e ≠ 0 then (0, r) else if (num s r.at_).2.2 ≠ 0 then (0, ⟨r.at_, (num s r.at_).2.2⟩) else ((num s r.at_).1, ⟨(num s r.at_).2.1, 0⟩)
/-- The error of a size at an offset. -/
def szE (s : Bs) (at_ : Nat) (most more : Int) : Int :=
  if (num s at_).2.2 ≠ 0 then (num s at_).2.2 else if (num s at_).1 < 0 then 3 else if (num s at_).1 > most then more else if (s.length : Int) - (num s at_).2.1 < (num s at_).1 then 4 else 0
/-- Reads the number of elements of a list. -/
def rdC (s : Bs) (most : Int) (r : Rd) : Int × Rd := if r.e ≠ 0 then (0, r) else if szE s r.at_ most 6 ≠ 0 then (0, ⟨r.at_, szE s r.at_ most 6⟩) else ((num s r.at_).1, ⟨(num s r.at_).2.1, 0⟩)
/-- Reads a string. -/
def rdT (s : Bs) (most : Int) (r : Rd) : Bs × Rd := if r.e ≠ 0 then ([], r) else if szE s r.at_ most 5 ≠ 0 then ([], ⟨r.at_, szE s r.at_ most 5⟩) else ((s.take ((num s r.at_).2.1 + (num s r.at_).1.toNat)).drop (num s r.at_).2.1, ⟨(num s r.at_).2.1 + (num s r.at_).1.toNat, 0⟩)
/-- The error of a string that should end. -/
def endE (s : Bs) (r : Rd) : Int := if r.e ≠ 0 then r.e else if r.at_ < s.length then 3 else 0
theorem rdN_ok {s : Bs} {r : Rd} (h : r.at_ ≤ s.length) : (rdN s r).2.at_ ≤ s.length := by
  unfold rdN; have := (num_bd s r.at_).1
  split
  · exact h
  · split
    · exact h
    · exact this
theorem rdC_ok {s : Bs} {most : Int} {r : Rd} (h : r.at_ ≤ s.length) : (rdC s most r).2.at_ ≤ s.length := by
  unfold rdC; have := (num_bd s r.at_).1
  split
  · exact h
  · split
    · exact h
    · exact this

theorem take_num {s : Bs} {at_ nx : Nat} {x : Int} (h : num s at_ = (x, nx, 0)) (hx : 0 ≤ x) : s.take nx = s.take at_ ++ encN x ∧ nx = at_ + (encN x).length := by
  obtain ⟨h1, h2⟩ := enc_num h hx
  refine ⟨?_, h1⟩
  have h3 : (s.drop at_).take (encN x).length = encN x := by rw [h2, List.take_left]
  rw [h1, List.take_add, h3]
/-- A reader that read a number. -/
theorem rdN_some {s : Bs} {r : Rd} (h : (rdN s r).2.e = 0) : r.e = 0 ∧ num s r.at_ = ((rdN s r).1, (rdN s r).2.at_, 0) := by
  unfold rdN at h ⊢
  by_cases h1 : r.e ≠ 0
  · rw [if_pos h1] at h; exact absurd h h1
  · rw [if_neg h1] at h ⊢
    by_cases h2 : (num s r.at_).2.2 ≠ 0
    · rw [if_pos h2] at h; exact absurd h h2
    · rw [if_neg h2]
      have h2 : (num s r.at_).2.2 = 0 := Classical.not_not.1 h2
      exact ⟨Classical.not_not.1 h1, by rw [← h2]⟩
theorem rdC_some {s : Bs} {most : Int} {r : Rd} (h : (rdC s most r).2.e = 0) : r.e = 0 ∧ num s r.at_ = ((rdC s most r).1, (rdC s most r).2.at_, 0) ∧ 0 ≤ (rdC s most r).1 ∧ (rdC s most r).1 ≤ most ∧ (rdC s most r).1 + (rdC s most r).2.at_ ≤ s.length := by
  unfold rdC at h ⊢
  by_cases h1 : r.e ≠ 0
  · rw [if_pos h1] at h; exact absurd h h1
  · rw [if_neg h1] at h ⊢
    by_cases h2 : szE s r.at_ most 6 ≠ 0
    · rw [if_pos h2] at h; exact absurd h h2
    · rw [if_neg h2]
      have h2 : szE s r.at_ most 6 = 0 := Classical.not_not.1 h2
      unfold szE at h2
      by_cases h3 : (num s r.at_).2.2 ≠ 0
      · rw [if_pos h3] at h2; exact absurd h2 h3
      · rw [if_neg h3] at h2
        have h3 : (num s r.at_).2.2 = 0 := Classical.not_not.1 h3
        refine ⟨Classical.not_not.1 h1, by rw [← h3], ?_⟩
        show 0 ≤ (num s r.at_).1 ∧ (num s r.at_).1 ≤ most ∧ (num s r.at_).1 + ((num s r.at_).2.1 : Int) ≤ s.length
        split at h2
        · simp at h2
        · split at h2
          · simp at h2
          · split at h2
            · simp at h2
            · omega
theorem rdN_enc {p q : Bs} {x : Int} (h : 0 ≤ x ∧ x ≤ 9223372036854775807) {s : Bs} (hs : s = p ++ encN x ++ q) : rdN s ⟨p.length, 0⟩ = (x, ⟨p.length + (encN x).length, 0⟩) := by
  subst hs
  unfold rdN
  rw [num_enc h]; simp
theorem rdC_enc {p q : Bs} {x most : Int} (h : 0 ≤ x ∧ x ≤ 9223372036854775807) (hm : x ≤ most) (hq : x ≤ q.length) {s : Bs} (hs : s = p ++ encN x ++ q) : rdC s most ⟨p.length, 0⟩ = (x, ⟨p.length + (encN x).length, 0⟩) := by
  subst hs
  have hz : szE (p ++ encN x ++ q) p.length most 6 = 0 := by
    unfold szE
    rw [num_enc h]
    rw [if_neg (by simp), if_neg (by show ¬ x < 0; omega), if_neg (by show ¬ x > most; omega), if_neg (by simp; omega)]
  unfold rdC
  show (if (0 : Int) ≠ 0 then _ else _) = _
  rw [if_neg (by simp), hz, if_neg (by simp), num_enc h]
theorem rdN_err {s : Bs} {r : Rd} (h : r.e ≠ 0) : rdN s r = (0, r) := by unfold rdN; rw [if_pos h]
end Go.RdM
