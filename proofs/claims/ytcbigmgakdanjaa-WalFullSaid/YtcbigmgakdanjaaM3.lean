/- A log without a program: names of files, groups, what a disk holds. Conditions: none. -/
import Derived.Test.YtcbigmgakdanjaaM0
import Derived.Test.YtcbigmgakdanjaaM2
namespace Go.WalM
open Go Go.SL Go.DskM Go.RdM
set_option linter.unusedVariables false
set_option linter.unusedSimpArgs false
/-! ### Digits -/
def dig : Nat → Nat → DskM.Bs
  | 0, _ => []
  | k + 1, n => dig k (n / 10) ++ [UInt8.ofNat (48 + n % 10)]
theorem len_dig : ∀ k n, (dig k n).length = k
  | 0, _ => rfl
  | k + 1, n => by rw [dig, List.length_append, len_dig k]; rfl
def dval (s : DskM.Bs) : Nat := s.foldl (fun m b => 10 * m + (b.toNat - 48)) 0
theorem dval_snoc (s : DskM.Bs) (b : UInt8) : dval (s ++ [b]) = 10 * dval s + (b.toNat - 48) := by unfold dval; rw [List.foldl_append]; rfl
def isD (s : DskM.Bs) : Prop := ∀ b ∈ s, 48 ≤ b.toNat ∧ b.toNat ≤ 57
instance (s : DskM.Bs) : Decidable (isD s) := by unfold isD; infer_instance
theorem dig_toNat (n : Nat) : (UInt8.ofNat (48 + n % 10)).toNat = 48 + n % 10 := by simp; omega
theorem isD_dig : ∀ k n, isD (dig k n)
  | 0, _ => by intro b hb; simp [dig] at hb
  | k + 1, n => by
    intro b hb
    rw [dig] at hb
    rcases List.mem_append.1 hb with hb | hb
    · exact isD_dig k _ b hb
    · rw [List.mem_singleton] at hb; subst hb; rw [dig_toNat]; omega
theorem dval_dig : ∀ k n, n < 10 ^ k → dval (dig k n) = n
  | 0, n, h => by have : n = 0 := by simpa using h
                  subst this; rfl
  | k + 1, n, h => by rw [dig, dval_snoc, dval_dig k (n / 10) (by rw [Nat.pow_succ] at h; omega), dig_toNat]; omega
theorem dval_lt : ∀ s, isD s → dval s < 10 ^ s.length := by
  intro s
  refine snoc_ind (P := fun s => isD s → dval s < 10 ^ s.length) (fun _ => by simp [dval]) (fun l b ih => ?_) s
  intro h
  have h1 := ih fun c hc => h c (by simp [hc])
  have h2 := h b (by simp)
  rw [dval_snoc, List.length_append, List.length_singleton, Nat.pow_succ]; omega
theorem dig_dval : ∀ s, isD s → dig s.length (dval s) = s := by
  intro s
  refine snoc_ind (P := fun s => isD s → dig s.length (dval s) = s) (fun _ => rfl) (fun l b ih => ?_) s
  intro h
  have h1 := ih fun c hc => h c (by simp [hc])
  have h2 := h b (by simp)
  rw [List.length_append, List.length_singleton, dig, dval_snoc]
  have e1 : (10 * dval l + (b.toNat - 48)) / 10 = dval l := by omega
  have e2 : (10 * dval l + (b.toNat - 48)) % 10 = b.toNat - 48 := by omega
  rw [e1, e2, h1]
  have : UInt8.ofNat (48 + (b.toNat - 48)) = b := by apply UInt8.toNat_inj.1; have := b.toNat_lt; simp; omega
  rw [this]
/-! ### Names of files -/
def fileN (nm : DskM.Bs) (n : Nat) : DskM.Bs := nm ++ [46] ++ dig 6 n
theorem len_fileN (nm : DskM.Bs) (n : Nat) : (fileN nm n).length = nm.length + 7 := by unfold fileN; simp [len_dig]
def parseN (nm f : DskM.Bs) : Option Nat :=
  if f.take (nm ++ [46]).length = nm ++ [46] ∧ (f.drop (nm ++ [46]).length).length = 6 ∧ isD (f.drop (nm ++ [46]).length) ∧ 0 < dval (f.drop (nm ++ [46]).length) then some (dval (f.drop (nm ++ [46]).length)) else none
theorem parse_file {nm : DskM.Bs} {n : Nat} (h : 1 ≤ n ∧ n ≤ 999999) : parseN nm (fileN nm n) = some n := by
  unfold parseN fileN
  rw [List.take_left, List.drop_left, if_pos, dval_dig 6 n (by omega)]
  exact ⟨rfl, len_dig 6 n, isD_dig 6 n, by rw [dval_dig 6 n (by omega)]; omega⟩
theorem parse_some {nm f : DskM.Bs} {n : Nat} (h : parseN nm f = some n) : f = fileN nm n ∧ 1 ≤ n ∧ n ≤ 999999 := by
  unfold parseN at h
  split at h
  · rename_i hc
    obtain ⟨h1, h2, h3, h4⟩ := hc
    simp only [Option.some.injEq] at h
    have h5 := dval_lt _ h3
    have h6 := dig_dval _ h3
    rw [h2] at h5 h6
    refine ⟨?_, by omega, by omega⟩
    have h7 := List.take_append_drop (nm ++ [46]).length f
    rw [h1] at h7
    unfold fileN
    rw [← h, h6]; exact h7.symm
  · simp at h
theorem fileN_inj {nm : DskM.Bs} {m n : Nat} (hm : m ≤ 999999) (hn : n ≤ 999999) (h : fileN nm m = fileN nm n) : m = n := by
  unfold fileN at h
  have := List.append_cancel_left h
  have := congrArg dval this
  rwa [dval_dig 6 m (by omega), dval_dig 6 n (by omega)] at this
/-! ### Their order -/
theorem app_lt (a : DskM.Bs) {x y : DskM.Bs} : a ++ x < a ++ y ↔ x < y := by
  induction a with
  | nil => rfl
  | cons b a ih => rw [List.cons_append, List.cons_append, List.cons_lt_cons_iff]; simp [ih]
theorem snoc_lt : ∀ {x y : DskM.Bs} {a b : UInt8}, x.length = y.length → (x ++ [a] < y ++ [b] ↔ x < y ∨ x = y ∧ a < b)
  | [], [], a, b, _ => by simp [List.cons_lt_cons_iff]
  | [], _ :: _, _, _, h => by simp at h
  | _ :: _, [], _, _, h => by simp at h
  | c :: x, d :: y, a, b, h => by
    have h' : x.length = y.length := by simpa using h
    rw [List.cons_append, List.cons_append, List.cons_lt_cons_iff, snoc_lt h', List.cons_lt_cons_iff]
    constructor
    · rintro (h1 | ⟨rfl, h1 | ⟨rfl, h1⟩⟩)
      · exact .inl (.inl h1)
      · exact .inl (.inr ⟨rfl, h1⟩)
      · exact .inr ⟨rfl, h1⟩
    · rintro ((h1 | ⟨rfl, h1⟩) | ⟨h1, h2⟩)
      · exact .inl h1
      · exact .inr ⟨rfl, .inl h1⟩
      · simp only [List.cons.injEq] at h1
        obtain ⟨rfl, rfl⟩ := h1
        exact .inr ⟨rfl, .inr ⟨rfl, h2⟩⟩
theorem dig_lt : ∀ {k m n : Nat}, m < 10 ^ k → n < 10 ^ k → (dig k m < dig k n ↔ m < n)
  | 0, m, n, hm, hn => by
    have : m = 0 := by simpa using hm
    have : n = 0 := by simpa using hn
    subst m n; simp [dig]
  | k + 1, m, n, hm, hn => by
    rw [Nat.pow_succ] at hm hn
    rw [dig, dig, snoc_lt (by rw [len_dig, len_dig]), dig_lt (by omega) (by omega)]
    have hlt : UInt8.ofNat (48 + m % 10) < UInt8.ofNat (48 + n % 10) ↔ m % 10 < n % 10 := by
      rw [UInt8.lt_iff_toNat_lt, dig_toNat, dig_toNat]; omega
    rw [hlt]
    constructor
    · rintro (h | ⟨h1, h2⟩)
      · omega
      · have := congrArg dval h1
        rw [dval_dig k _ (by omega), dval_dig k _ (by omega)] at this
        omega
    · intro h
      by_cases h1 : m / 10 < n / 10
      · exact .inl h1
      · have : m / 10 = n / 10 := by omega
        exact .inr ⟨by rw [this], by omega⟩
theorem fileN_lt {nm : DskM.Bs} {m n : Nat} (hm : m ≤ 999999) (hn : n ≤ 999999) : fileN nm m < fileN nm n ↔ m < n := by
  unfold fileN
  rw [app_lt, dig_lt (by omega) (by omega)]
/-! ### The files of a log -/
def segsOf (nm : DskM.Bs) (fs : Files) : List (Nat × Fl) := fs.filterMap fun p => (parseN nm p.1).map fun n => (n, p.2)
theorem segsOf_nil (nm : DskM.Bs) : segsOf nm [] = [] := rfl
theorem segsOf_cons (nm : DskM.Bs) (p : DskM.Bs × Fl) (fs : Files) : segsOf nm (p :: fs) = (match parseN nm p.1 with | some n => [(n, p.2)] | none => []) ++ segsOf nm fs := by
  unfold segsOf
  rw [List.filterMap_cons]
  cases parseN nm p.1 <;> rfl
theorem segsOf_app (nm : DskM.Bs) (a b : Files) : segsOf nm (a ++ b) = segsOf nm a ++ segsOf nm b := by unfold segsOf; rw [List.filterMap_append]
theorem mem_segs {nm : DskM.Bs} {fs : Files} {q : Nat × Fl} : q ∈ segsOf nm fs ↔ 1 ≤ q.1 ∧ q.1 ≤ 999999 ∧ (fileN nm q.1, q.2) ∈ fs := by
  unfold segsOf
  rw [List.mem_filterMap]
  constructor
  · rintro ⟨p, hp, h⟩
    cases hq : parseN nm p.1 with
    | none => rw [hq] at h; simp at h
    | some n =>
      rw [hq] at h
      simp only [Option.map_some, Option.some.injEq] at h
      subst h
      obtain ⟨h1, h2, h3⟩ := parse_some hq
      exact ⟨h2, h3, by rw [← h1]; exact hp⟩
  · rintro ⟨h1, h2, h3⟩
    exact ⟨_, h3, by rw [parse_file ⟨h1, h2⟩]; rfl⟩
theorem segs_inc {nm : DskM.Bs} : ∀ {fs : Files}, Inc fs → (segsOf nm fs).Pairwise (fun p q => p.1 < q.1)
  | [], _ => List.Pairwise.nil
  | p :: fs, h => by
    obtain ⟨h1, h2⟩ := List.pairwise_cons.1 h
    rw [segsOf_cons]
    cases hq : parseN nm p.1 with
    | none => exact segs_inc h2
    | some n =>
      refine List.pairwise_cons.2 ⟨fun q hq2 => ?_, segs_inc h2⟩
      obtain ⟨g1, g2, g3⟩ := mem_segs.1 hq2
      obtain ⟨e1, e2, e3⟩ := parse_some hq
      have := h1 _ g3
      rw [e1] at this
      exact (fileN_lt e3 g2).1 this
theorem find_seg {nm : DskM.Bs} {fs : Files} (hi : Inc fs) {n : Nat} {f : Fl} (h : (n, f) ∈ segsOf nm fs) : find fs (fileN nm n) = some f := by
  obtain ⟨_, _, h3⟩ := mem_segs.1 h
  exact look_get hi.nod h3
theorem find_none {nm : DskM.Bs} {fs : Files} (hi : Inc fs) {n : Nat} (hn : 1 ≤ n ∧ n ≤ 999999) (h : ∀ q ∈ segsOf nm fs, q.1 ≠ n) : find fs (fileN nm n) = none := by
  cases hf : find fs (fileN nm n) with
  | none => rfl
  | some f => exact absurd rfl (h (n, f) (mem_segs.2 ⟨hn.1, hn.2, find_mem hf⟩))
/-- A file is written that is the last of a log. -/
theorem segs_set {nm : DskM.Bs} {n : Nat} {f : Fl} (hn : 1 ≤ n ∧ n ≤ 999999) : ∀ {fs : Files}, Inc fs → (∀ q ∈ segsOf nm fs, q.1 ≤ n) → segsOf nm (setS fs (fileN nm n) f) = (segsOf nm fs).filter (fun q => decide (q.1 ≠ n)) ++ [(n, f)]
  | [], _, _ => by rw [setS, segsOf_cons, parse_file hn]; rfl
  | p :: fs, h, hq => by
    obtain ⟨h1, h2⟩ := List.pairwise_cons.1 h
    have hgt : fileN nm n ≤ p.1 → segsOf nm fs = [] := by
      intro hle
      rw [List.eq_nil_iff_forall_not_mem]
      intro q hm
      obtain ⟨g1, g2, g3⟩ := mem_segs.1 hm
      have h3 := h1 _ g3
      have h4 : fileN nm n < fileN nm q.1 := List.lt_of_le_of_lt hle h3
      have h5 := (fileN_lt hn.2 g2).1 h4
      have := hq q (by rw [segsOf_cons]; exact List.mem_append_right _ hm)
      omega
    rw [setS]
    split
    · rename_i hlt
      have h0 : segsOf nm (p :: fs) = [] := by
        rw [segsOf_cons, hgt (List.not_lt.1 (lt_asymm hlt))]
        cases hp : parseN nm p.1 with
        | none => rfl
        | some m =>
          obtain ⟨e1, e2, e3⟩ := parse_some hp
          rw [e1] at hlt
          have h5 := (fileN_lt hn.2 e3).1 hlt
          have := hq (m, p.2) (by rw [segsOf_cons, hp]; simp)
          have : m ≤ n := this
          omega
      rw [segsOf_cons, parse_file hn, h0]; rfl
    · split
      · rename_i h3 h4
        have h0 := hgt (by rw [h4]; exact List.le_refl _)
        have hpp : parseN nm p.1 = some n := by rw [← h4]; exact parse_file hn
        rw [segsOf_cons, parse_file hn, segsOf_cons, hpp, h0]
        simp
      · rename_i h3 h4
        rw [segsOf_cons, segs_set hn h2 (fun q hm => hq q (by rw [segsOf_cons]; exact List.mem_append_right _ hm)), segsOf_cons, List.filter_append, ← List.append_assoc]
        congr 2
        cases hp : parseN nm p.1 with
        | none => rfl
        | some m =>
          have : m ≠ n := by
            intro e; subst e
            exact h4 (parse_some hp).1.symm
          simp [this]
/-- A file that is none of a log. -/
theorem segs_set_other {nm k : DskM.Bs} {f : Fl} (hk : parseN nm k = none) : ∀ {fs : Files}, segsOf nm (setS fs k f) = segsOf nm fs
  | [] => by rw [setS, segsOf_cons]; simp [hk]
  | p :: fs => by
    rw [setS]
    split
    · rw [segsOf_cons]; simp [hk]
    · split
      · rename_i h1 h2
        rw [segsOf_cons, segsOf_cons]; simp only [hk, ← h2]
      · rw [segsOf_cons, segs_set_other hk, ← segsOf_cons]
theorem segs_del {nm : DskM.Bs} {n : Nat} (hn : 1 ≤ n ∧ n ≤ 999999) : ∀ {fs : Files}, segsOf nm (delS fs (fileN nm n)) = (segsOf nm fs).filter (fun q => decide (q.1 ≠ n))
  | [] => rfl
  | p :: fs => by
    have ih := segs_del (nm := nm) hn (fs := fs)
    unfold delS at ih ⊢
    rw [List.filter_cons]
    by_cases h : p.1 = fileN nm n
    · rw [if_neg (by simp [h]), ih, segsOf_cons, h, parse_file hn]
      simp
    · rw [if_pos (by simp [h]), segsOf_cons, ih, segsOf_cons, List.filter_append]
      congr 1
      cases hp : parseN nm p.1 with
      | none => rfl
      | some m =>
        have : m ≠ n := fun e => by subst e; exact h (parse_some hp).1
        simp [this]
theorem segs_del_other {nm k : DskM.Bs} (hk : parseN nm k = none) : ∀ {fs : Files}, segsOf nm (delS fs k) = segsOf nm fs
  | [] => rfl
  | p :: fs => by
    have ih := segs_del_other hk (fs := fs)
    unfold delS at ih ⊢
    rw [List.filter_cons]
    by_cases h : p.1 = k
    · rw [if_neg (by simp [h]), ih, segsOf_cons, h, hk]; rfl
    · rw [if_pos (by simp [h]), segsOf_cons, ih, ← segsOf_cons]
/-! ### Groups -/
def txt (x : DskM.Bs) : DskM.Bs := encN x.length ++ x
def sumB (r : Nat) : Nat := if r % 2 = 1 then (r / 2) ^^^ 2197175160 else r / 2
def sumU (r : Nat) (b : UInt8) : Nat := sumB (sumB (sumB (sumB (sumB (sumB (sumB (sumB (r ^^^ b.toNat))))))))
def sumR (r : Nat) (s : DskM.Bs) : Nat := s.foldl sumU r
/-- The checksum. -/
def crc (s : DskM.Bs) : Nat := sumR 4294967295 s ^^^ 4294967295
theorem sumB_lt {r : Nat} (h : r < 4294967296) : sumB r < 4294967296 := by
  unfold sumB
  split
  · exact Nat.xor_lt_two_pow (n := 32) (by omega) (by omega)
  · omega
theorem sumU_lt {r : Nat} {b : UInt8} (h : r < 4294967296) : sumU r b < 4294967296 := by
  have hb := b.toNat_lt
  unfold sumU
  exact sumB_lt (sumB_lt (sumB_lt (sumB_lt (sumB_lt (sumB_lt (sumB_lt (sumB_lt (Nat.xor_lt_two_pow (n := 32) h (by omega)))))))))
theorem sumR_lt : ∀ {s : DskM.Bs} {r : Nat}, r < 4294967296 → sumR r s < 4294967296
  | [], r, h => h
  | b :: s, r, h => sumR_lt (s := s) (sumU_lt h)
theorem crc_lt (s : DskM.Bs) : crc s < 4294967296 := Nat.xor_lt_two_pow (n := 32) (sumR_lt (by omega)) (by omega)
def body (first : Nat) (g : List DskM.Bs) : DskM.Bs := encN first ++ encN g.length ++ (g.map txt).flatten
def encG (first : Nat) (g : List DskM.Bs) : DskM.Bs := txt (body first g) ++ encN (crc (body first g))
def encGs : Nat → List (List DskM.Bs) → DskM.Bs
  | _, [] => []
  | f, g :: gs => encG f g ++ encGs (f + g.length) gs
/-- A group that a log can have. -/
structure OkG (g : List DskM.Bs) : Prop where
  ne : g ≠ []
  len : g.length ≤ 256
  rc : ∀ r ∈ g, r.length ≤ 65536
theorem len_txt (x : DskM.Bs) : (txt x).length = (encN x.length).length + x.length := by unfold txt; rw [List.length_append]
theorem txt_le {x : DskM.Bs} (h : x.length ≤ 9223372036854775807) : (txt x).length ≤ x.length + 9 := by
  rw [len_txt]; have := encN_le (x := (x.length : Int)) (by omega); omega
theorem sum_txt : ∀ {g : List DskM.Bs}, (∀ r ∈ g, r.length ≤ 65536) → ((g.map txt).flatten).length ≤ g.length * 65545
  | [], _ => by simp
  | x :: g, h => by
    have h1 := sum_txt (g := g) fun r hr => h r (by simp [hr])
    have h2 := h x (by simp)
    have h3 := txt_le (x := x) (by omega)
    simp only [List.map_cons, List.flatten_cons, List.length_append, List.length_cons] at h1 ⊢
    omega
theorem body_le {f : Nat} {g : List DskM.Bs} (hg : OkG g) (hf : f ≤ 1099511627776) : (body f g).length ≤ 16779538 := by
  unfold body
  have h1 := encN_le (x := (f : Int)) (by omega)
  have hl := hg.len
  have h2 := encN_le (x := (g.length : Int)) (by omega)
  have h3 := sum_txt hg.rc
  rw [List.length_append, List.length_append]
  have : g.length * 65545 ≤ 256 * 65545 := Nat.mul_le_mul_right _ hl
  omega
theorem encG_le {f : Nat} {g : List DskM.Bs} (hg : OkG g) (hf : f ≤ 1099511627776) : (encG f g).length ≤ 16779556 := by
  unfold encG
  have h1 := body_le hg hf
  have h2 := txt_le (x := body f g) (by omega)
  have h3 := crc_lt (body f g)
  have h4 := encN_le (x := (crc (body f g) : Int)) (by omega)
  rw [List.length_append]; omega
theorem encG_pos (f : Nat) (g : List DskM.Bs) : 0 < (encG f g).length := by unfold encG txt encN; simp
theorem encGs_app : ∀ (a b : List (List DskM.Bs)) (f : Nat), encGs f (a ++ b) = encGs f a ++ encGs (f + a.flatten.length) b
  | [], b, f => by simp [encGs]
  | g :: a, b, f => by
    rw [List.cons_append, encGs, encGs_app a b, encGs, List.append_assoc, List.flatten_cons, List.length_append, ← Nat.add_assoc]
theorem encGs_one (f : Nat) (g : List DskM.Bs) : encGs f [g] = encG f g := by simp [encGs]
/-! ### What is read -/
theorem rdT_enc {p q x : DskM.Bs} {most : Int} (hx : (x.length : Int) ≤ 9223372036854775807) (hm : (x.length : Int) ≤ most) {s : DskM.Bs} (hs : s = p ++ txt x ++ q) : rdT s most ⟨p.length, 0⟩ = (x, ⟨p.length + (txt x).length, 0⟩) := by
  have hs2 : s = p ++ encN x.length ++ (x ++ q) := by rw [hs]; unfold txt; simp only [List.append_assoc]
  have hn := num_enc (p := p) (q := x ++ q) (x := (x.length : Int)) (by omega)
  rw [← hs2] at hn
  have hz : szE s p.length most 5 = 0 := by
    unfold szE
    rw [hn, if_neg (by simp), if_neg (by show ¬ (x.length : Int) < 0; omega), if_neg (by show ¬ (x.length : Int) > most; omega), if_neg (by rw [hs2]; simp; omega)]
  unfold rdT
  show (if (0 : Int) ≠ 0 then _ else _) = _
  rw [if_neg (by simp), hz, if_neg (by simp), hn]
  show ((s.take (p.length + (encN x.length).length + (x.length : Int).toNat)).drop (p.length + (encN x.length).length), _) = _
  have h1 : s.drop (p.length + (encN x.length).length) = x ++ q := by
    rw [hs2, ← List.length_append, List.drop_left]
  rw [Int.toNat_natCast, List.drop_take, h1, Nat.add_sub_cancel_left, List.take_left, len_txt, Nat.add_assoc]
/-- A number that is cut is none. -/
theorem num_short {p : DskM.Bs} {x : Int} {j : Nat} (h : 0 ≤ x ∧ x ≤ 9223372036854775807) (hj : j < (encN x).length) : (num (p ++ (encN x).take j) p.length).2.2 ≠ 0 := by
  rcases Nat.eq_zero_or_pos j with h0 | h0
  · subst h0
    rw [num_none (by simp)]; simp
  · have hk := len_be 8 x.toNat (by omega)
    obtain ⟨k, hkk⟩ : ∃ k, k = (be x.toNat).length := ⟨_, rfl⟩
    rw [← hkk] at hk
    have hle : (encN x).length = k + 1 := by rw [len_encN, ← hkk]
    have hb : (p ++ (encN x).take j)[p.length]? = some (UInt8.ofNat (128 + k)) := by
      rw [List.getElem?_append_right (Nat.le_refl _), Nat.sub_self, List.getElem?_take, if_pos h0]
      unfold encN; rw [← hkk]; simp
    have hf := size_first hk
    have hs : szB (128 + k) = k := by unfold szB; rw [if_neg (by omega)]; omega
    rw [num_some hb, hf, hs, if_neg (by omega), if_pos (by rw [List.length_append, List.length_take]; omega)]
    simp
theorem rdN_short {p : DskM.Bs} {x : Int} {j : Nat} (h : 0 ≤ x ∧ x ≤ 9223372036854775807) (hj : j < (encN x).length) : (rdN (p ++ (encN x).take j) ⟨p.length, 0⟩).2.e ≠ 0 := by
  have := num_short (p := p) h hj
  unfold rdN
  show (if (0 : Int) ≠ 0 then _ else _ : Int × Rd).2.e ≠ 0
  rw [if_neg (by simp), if_pos this]; exact this
theorem take_app_lt {α : Type} {a b : List α} {j : Nat} (h : j ≤ a.length) : (a ++ b).take j = a.take j := List.take_append_of_le_length h
/-- A group that is cut is none. -/
theorem torn_none {p : DskM.Bs} {f : Nat} {g : List DskM.Bs} {j : Nat} (hf : f ≤ 1099511627776) (hg : OkG g) (hj : j < (encG f g).length) {s : DskM.Bs} (hs : s = p ++ (encG f g).take j) : (rdN s (rdT s 1073741824 ⟨p.length, 0⟩).2).2.e ≠ 0 := by
  obtain ⟨b, hb⟩ : ∃ b, b = body f g := ⟨_, rfl⟩
  have hbl : b.length ≤ 16779538 := by rw [hb]; exact body_le hg hf
  have he : encG f g = encN b.length ++ b ++ encN (crc b) := by unfold encG txt; rw [← hb]
  have hxb : (0 : Int) ≤ (b.length : Int) ∧ (b.length : Int) ≤ 9223372036854775807 := by omega
  have herr : ∀ r : Rd, r.e ≠ 0 → (rdN s r).2.e ≠ 0 := fun r hr => by rw [rdN_err hr]; exact hr
  rw [he] at hs hj
  by_cases h1 : j < (encN b.length).length
  · refine herr _ ?_
    rw [List.append_assoc, take_app_lt (by omega)] at hs
    have hn := num_short (p := p) hxb h1
    rw [← hs] at hn
    have hz : szE s p.length 1073741824 5 ≠ 0 := by unfold szE; rw [if_pos hn]; exact hn
    unfold rdT
    show (if (0 : Int) ≠ 0 then _ else _ : DskM.Bs × Rd).2.e ≠ 0
    rw [if_neg (by simp), if_pos hz]; exact hz
  · by_cases h2 : j < (encN b.length ++ b).length
    · refine herr _ ?_
      rw [take_app_lt (by omega), List.take_append, List.take_of_length_le (by omega), ← List.append_assoc] at hs
      have hn := num_enc (p := p) (q := b.take (j - (encN b.length).length)) hxb
      rw [← hs] at hn
      have hz : szE s p.length 1073741824 5 = 4 := by
        unfold szE
        rw [hn, if_neg (by simp), if_neg (by show ¬ (b.length : Int) < 0; omega), if_neg (by show ¬ (b.length : Int) > 1073741824; omega), if_pos]
        rw [List.length_append] at h2
        rw [hs]
        simp only [List.length_append, List.length_take]
        omega
      unfold rdT
      show (if (0 : Int) ≠ 0 then _ else _ : DskM.Bs × Rd).2.e ≠ 0
      rw [if_neg (by simp), hz, if_pos (by simp)]; simp
    · have hs2 : s = p ++ txt b ++ (encN (crc b)).take (j - (encN b.length ++ b).length) := by
        rw [hs, List.take_append, List.take_of_length_le (by omega), ← List.append_assoc]; rfl
      rw [rdT_enc (by omega) (by omega) hs2]
      have hc := crc_lt b
      have := rdN_short (p := p ++ txt b) (x := (crc b : Int)) (j := j - (encN b.length ++ b).length) (by omega) (by rw [List.length_append] at hj; omega)
      rw [← hs2, List.length_append] at this
      exact this
/-! ### The log -/
/-- A segment: its number and its groups. -/
structure Sg where
  num : Nat
  gs : List (List DskM.Bs)
def Sg.recs (x : Sg) : List DskM.Bs := x.gs.flatten
structure Lg where
  first : Nat
  segs : List Sg
  pend : List DskM.Bs
  fresh : Bool
  broken : Bool
def allR (segs : List Sg) : List DskM.Bs := (segs.map Sg.recs).flatten
theorem allR_app (a b : List Sg) : allR (a ++ b) = allR a ++ allR b := by unfold allR; rw [List.map_append, List.flatten_append]
theorem allR_one (x : Sg) : allR [x] = x.recs := by unfold allR; simp
theorem allR_cons (x : Sg) (a : List Sg) : allR (x :: a) = x.recs ++ allR a := by unfold allR; simp
/-- The rows of the segments: number, first, last, groups. -/
def rowsOf : Nat → List Sg → List (Nat × Nat × Nat × Nat)
  | _, [] => []
  | f, x :: xs => (x.num, f, f + x.recs.length - 1, x.gs.length) :: rowsOf (f + x.recs.length) xs
theorem rowsOf_len : ∀ (l : List Sg) (f : Nat), (rowsOf f l).length = l.length
  | [], _ => rfl
  | x :: l, f => by rw [rowsOf, List.length_cons, rowsOf_len l, List.length_cons]
theorem rowsOf_app : ∀ (a b : List Sg) (f : Nat), rowsOf f (a ++ b) = rowsOf f a ++ rowsOf (f + (allR a).length) b
  | [], b, f => by simp [rowsOf, allR]
  | x :: a, b, f => by
    rw [List.cons_append, rowsOf, rowsOf_app a b, rowsOf, allR_cons, List.length_append, List.cons_append, Nat.add_assoc]
theorem rowsOf_one (x : Sg) (f : Nat) : rowsOf f [x] = [(x.num, f, f + x.recs.length - 1, x.gs.length)] := rfl
/-- The segments with one group more. -/
def noteS (segs : List Sg) (n : Nat) (g : List DskM.Bs) : List Sg :=
  match segs.getLast? with
  | none => [⟨n, [g]⟩]
  | some x => if x.num = n then segs.dropLast ++ [⟨n, x.gs ++ [g]⟩] else segs ++ [⟨n, [g]⟩]
theorem noteS_new {segs : List Sg} {n : Nat} {g : List DskM.Bs} (h : ∀ x, segs.getLast? = some x → x.num ≠ n) : noteS segs n g = segs ++ [⟨n, [g]⟩] := by
  unfold noteS
  cases hl : segs.getLast? with
  | none => rw [List.getLast?_eq_none_iff.1 hl]; rfl
  | some x => exact if_neg (h x hl)
theorem noteS_old {S : List Sg} {n : Nat} {gs : List (List DskM.Bs)} {g : List DskM.Bs} : noteS (S ++ [⟨n, gs⟩]) n g = S ++ [⟨n, gs ++ [g]⟩] := by
  unfold noteS
  rw [List.getLast?_concat]
  dsimp only
  rw [if_pos rfl, List.dropLast_concat]
theorem noteS_all (segs : List Sg) (n : Nat) (g : List DskM.Bs) : allR (noteS segs n g) = allR segs ++ g := by
  unfold noteS
  cases hl : segs.getLast? with
  | none => rw [List.getLast?_eq_none_iff.1 hl]; simp [allR, Sg.recs]
  | some x =>
    obtain ⟨S, rfl⟩ : ∃ S, segs = S ++ [x] := by
      obtain ⟨S, hS⟩ := List.getLast?_eq_some_iff.1 hl
      exact ⟨S, hS⟩
    dsimp only
    by_cases hx : x.num = n
    · rw [if_pos hx, List.dropLast_concat, allR_app, allR_app, allR_one, allR_one]
      unfold Sg.recs; simp
    · rw [if_neg hx, allR_app, allR_one]; unfold Sg.recs; simp
def nextN (segs : List Sg) (fresh : Bool) : Nat :=
  match segs.getLast? with
  | none => 1
  | some x => if fresh = true ∨ 8 ≤ x.gs.length then x.num + 1 else x.num
def lastN (L : Lg) : Nat := L.first + (allR L.segs).length - 1
def commitL (L : Lg) : Lg := if L.pend = [] then L else { L with segs := noteS L.segs (nextN L.segs L.fresh) L.pend, pend := [], fresh := false }
def openL (L : Lg) : Lg := { L with pend := [], fresh := true, broken := false }
/-- The segments that stay. -/
def truncS : Nat → List Sg → Nat → Nat × List Sg
  | f, x :: y :: l, n => if f + x.recs.length - 1 ≤ n then truncS (f + x.recs.length) (y :: l) n else (f, x :: y :: l)
  | f, l, _ => (f, l)
def truncL (L : Lg) (n : Nat) : Lg := { L with first := (truncS L.first L.segs n).1, segs := (truncS L.first L.segs n).2 }
/-- What holds of a log at all times. -/
structure OkS (first : Nat) (segs : List Sg) : Prop where
  pos : 1 ≤ first
  nil : segs = [] → first = 1
  inc : segs.Pairwise (fun a b => a.num < b.num)
  num : ∀ x ∈ segs, 1 ≤ x.num ∧ x.num ≤ 999999
  grp : ∀ x ∈ segs, x.gs ≠ [] ∧ ∀ g ∈ x.gs, OkG g
theorem OkG.recs {x : Sg} (h : x.gs ≠ [] ∧ ∀ g ∈ x.gs, OkG g) : 0 < x.recs.length := by
  unfold Sg.recs
  obtain ⟨h1, h2⟩ := h
  cases hg : x.gs with
  | nil => exact absurd hg h1
  | cons g gs =>
    have := (h2 g (by rw [hg]; simp)).ne
    have := List.length_pos_iff.2 this
    rw [List.flatten_cons, List.length_append]; omega
theorem all_nil {first : Nat} {segs : List Sg} (h : OkS first segs) : allR segs = [] ↔ segs = [] := by
  constructor
  · intro ha
    cases segs with
    | nil => rfl
    | cons x l =>
      have := OkG.recs (h.grp x (by simp))
      rw [allR_cons] at ha
      have := congrArg List.length ha
      rw [List.length_append, List.length_nil] at this; omega
  · rintro rfl; rfl
/-- What is torn off behind the last group of a file. -/
def Torn (f : Nat) (t : DskM.Bs) : Prop := t = [] ∨ ∃ g j, OkG g ∧ j < (encG f g).length ∧ t = (encG f g).take j
/-- A disk holds the segments of a log. -/
def Holds : Nat → List Sg → List (Nat × Fl) → Prop
  | _, [], [] => True
  | f, x :: xs, q :: r => q.1 = x.num ∧ (∃ t, Torn (f + x.recs.length) t ∧ q.2.data = encGs f x.gs ++ t) ∧ Holds (f + x.recs.length) xs r
  | _, _, _ => False
end Go.WalM
