/- Plain lemmas on the combination of sets given by runs (layer 5). Conditions: none. -/
import Derived.Test.YtkknlfhncheflaaM0
set_option linter.unusedVariables false
namespace Go.BitM
def memB (rl : List Run) (n : Int) : Bool := rl.any fun r => decide (r.1 ≤ n ∧ n ≤ r.2)
theorem memB_iff {rl : List Run} {n : Int} : memB rl n = true ↔ mem rl n := by
  unfold memB mem; simp [List.any_eq_true]
theorem memB_false {rl : List Run} {n : Int} : memB rl n = false ↔ ¬ mem rl n := by rw [← memB_iff]; simp
def cutsOf (rl : List Run) : List Int := rl.flatMap fun r => [r.1, r.2 + 1]
theorem mem_cutsOf {rl : List Run} {x : Int} : x ∈ cutsOf rl ↔ ∃ r ∈ rl, x = r.1 ∨ x = r.2 + 1 := by unfold cutsOf; simp [List.mem_flatMap]
/-- The run at i begins not behind at. -/
def hd (rl : List Run) (i : Nat) (at_ : Int) : Bool := match rl[i]? with
  | some r => decide (r.1 ≤ at_)
  | none => false
theorem hd_ok {rl : List Run} {i : Nat} {at_ : Int} (h : WF rl) (h1 : ∀ r ∈ rl.take i, r.2 < at_) (h2 : ∀ r, rl[i]? = some r → at_ ≤ r.2) : hd rl i at_ = memB rl at_ := by
  unfold hd
  rw [Bool.eq_iff_iff, memB_iff]
  cases hr : rl[i]? with
  | none =>
    simp only [Bool.false_eq_true, false_iff]
    rintro ⟨r, hm, h3, h4⟩
    have hle : rl.length ≤ i := by simpa using hr
    rw [List.take_of_length_le hle] at h1
    have := h1 r hm; omega
  | some r =>
    have hge := h2 r hr
    obtain ⟨hlt, hge'⟩ := List.getElem?_eq_some_iff.1 hr
    simp only [decide_eq_true_eq]
    constructor
    · exact fun h3 => ⟨r, List.mem_of_getElem? hr, h3, hge⟩
    · rintro ⟨q, hm, h3, h4⟩
      have hsplit : rl = rl.take i ++ (r :: rl.drop (i + 1)) := by
        rw [← hge', ← List.drop_eq_getElem_cons hlt, List.take_append_drop]
      rw [hsplit] at hm
      rcases List.mem_append.1 hm with hm | hm
      · have := h1 q hm; omega
      · rcases List.mem_cons.1 hm with rfl | hm
        · exact h3
        · have hw := h.2
          rw [hsplit, List.pairwise_append, List.pairwise_cons] at hw
          have := hw.2.1.1 q hm
          omega
structure CInv (keep : Bool → Bool → Bool) (a b : List Run) (at_ : Int) (out : List Run) : Prop where
  wf : WF out
  mem : ∀ n, mem out n ↔ n < at_ ∧ keep (memB a n) (memB b n) = true
  last : ∀ r, out.getLast? = some r → r.1 ≤ at_
theorem const_between {rl : List Run} {cs : List Int} {j : Nat} {x y n : Int} (hcs : SS cs) (hall : ∀ c ∈ cutsOf rl, c ∈ cs) (hx : cs[j]? = some x) (hy : cs[j + 1]? = some y) (h1 : x ≤ n) (h2 : n < y) : memB rl n = memB rl x := by
  have hgap : ∀ c ∈ cs, c ≤ x ∨ y ≤ c := by
    intro c hc
    obtain ⟨i, hi, rfl⟩ := List.mem_iff_getElem.1 hc
    obtain ⟨hj, rfl⟩ := List.getElem?_eq_some_iff.1 hx
    obtain ⟨hj1, rfl⟩ := List.getElem?_eq_some_iff.1 hy
    have hp := List.pairwise_iff_getElem.1 hcs
    rcases Nat.lt_trichotomy i j with h | h | h
    · left; have := hp i j hi hj h; omega
    · subst h; left; omega
    · right
      rcases Nat.lt_or_ge (j + 1) i with h' | h'
      · have := hp (j + 1) i hj1 hi h'; omega
      · have : i = j + 1 := by omega
        subst this; omega
  rw [Bool.eq_iff_iff, memB_iff, memB_iff]
  constructor
  · rintro ⟨r, hr, h3, h4⟩
    refine ⟨r, hr, ?_, by omega⟩
    rcases hgap r.1 (hall _ (mem_cutsOf.2 ⟨r, hr, .inl rfl⟩)) with h | h
    · exact h
    · omega
  · rintro ⟨r, hr, h3, h4⟩
    refine ⟨r, hr, by omega, ?_⟩
    rcases hgap (r.2 + 1) (hall _ (mem_cutsOf.2 ⟨r, hr, .inr rfl⟩)) with h | h
    · omega
    · omega
theorem comb_start {keep : Bool → Bool → Bool} (hk : keep false false = false) {a b : List Run} {cs : List Int} {x : Int} (ha : WF a) (hb : WF b) (hcs : SS cs) (hall : ∀ c ∈ cutsOf (a ++ b), c ∈ cs) (hx : cs[0]? = some x) : CInv keep a b x [] := by
  have hmin : ∀ c ∈ cs, x ≤ c := by
    intro c hc
    obtain ⟨i, hi, rfl⟩ := List.mem_iff_getElem.1 hc
    obtain ⟨hj, rfl⟩ := List.getElem?_eq_some_iff.1 hx
    rcases Nat.eq_zero_or_pos i with h | h
    · subst h; omega
    · have := List.pairwise_iff_getElem.1 hcs 0 i hj hi h; omega
  refine ⟨WF.nil, fun n => ?_, fun r h => by simp at h⟩
  simp only [mem_nil, false_iff, not_and]
  intro hn
  have h1 : memB a n = false := memB_false.2 fun ⟨r, hr, h3, _⟩ => by
    have := hmin r.1 (hall _ (mem_cutsOf.2 ⟨r, by simp [hr], .inl rfl⟩)); omega
  have h2 : memB b n = false := memB_false.2 fun ⟨r, hr, h3, _⟩ => by
    have := hmin r.1 (hall _ (mem_cutsOf.2 ⟨r, by simp [hr], .inl rfl⟩)); omega
  rw [h1, h2, hk]; simp
theorem comb_step {keep : Bool → Bool → Bool} {a b out : List Run} {cs : List Int} {j : Nat} {x y : Int} (h : CInv keep a b x out) (hcs : SS cs) (hall : ∀ c ∈ cutsOf (a ++ b), c ∈ cs) (hx : cs[j]? = some x) (hy : cs[j + 1]? = some y) :
    CInv keep a b y (if keep (memB a x) (memB b x) then push out (x, y - 1) else out) := by
  have hxy : x < y := by
    obtain ⟨hj, rfl⟩ := List.getElem?_eq_some_iff.1 hx
    obtain ⟨hj1, rfl⟩ := List.getElem?_eq_some_iff.1 hy
    exact List.pairwise_iff_getElem.1 hcs j (j + 1) hj hj1 (by omega)
  have ca : ∀ n, x ≤ n → n < y → memB a n = memB a x := fun n h1 h2 => const_between hcs (fun c hc => hall c (by unfold cutsOf at *; simp only [List.flatMap_append, List.mem_append]; exact .inl hc)) hx hy h1 h2
  have cb : ∀ n, x ≤ n → n < y → memB b n = memB b x := fun n h1 h2 => const_between hcs (fun c hc => hall c (by unfold cutsOf at *; simp only [List.flatMap_append, List.mem_append]; exact .inr hc)) hx hy h1 h2
  split
  · rename_i hkp
    obtain ⟨p1, p2, ⟨r, p3, p4⟩, _⟩ := push_ok (x := (x, y - 1)) h.wf (by simp only; omega) h.last
    refine ⟨p1, fun n => ?_, fun q hq => by rw [p3] at hq; simp at hq; subst hq; simp only at p4; omega⟩
    rw [p2, h.mem]
    constructor
    · rintro (⟨h1, h2⟩ | ⟨h1, h2⟩)
      · exact ⟨by omega, h2⟩
      · simp only at h1 h2; exact ⟨by omega, by rw [ca n h1 (by omega), cb n h1 (by omega)]; exact hkp⟩
    · rintro ⟨h1, h2⟩
      rcases Int.lt_or_le n x with h3 | h3
      · exact .inl ⟨h3, h2⟩
      · exact .inr ⟨h3, by simp only; omega⟩
  · rename_i hkp
    refine ⟨h.wf, fun n => ?_, fun r hr => by have := h.last r hr; omega⟩
    rw [h.mem]
    constructor
    · rintro ⟨h1, h2⟩; exact ⟨by omega, h2⟩
    · rintro ⟨h1, h2⟩
      rcases Int.lt_or_le n x with h3 | h3
      · exact ⟨h3, h2⟩
      · rw [ca n h3 h1, cb n h3 h1] at h2; exact absurd h2 hkp
theorem comb_end {keep : Bool → Bool → Bool} (hk : keep false false = false) {a b out : List Run} {cs : List Int} {j : Nat} {x : Int} (h : CInv keep a b x out) (hcs : SS cs) (hall : ∀ c ∈ cutsOf (a ++ b), c ∈ cs) (hx : cs[j]? = some x) (hj : cs.length ≤ j + 1) (n : Int) :
    mem out n ↔ keep (memB a n) (memB b n) = true := by
  have hmax : ∀ c ∈ cs, c ≤ x := by
    intro c hc
    obtain ⟨i, hi, rfl⟩ := List.mem_iff_getElem.1 hc
    obtain ⟨hj', rfl⟩ := List.getElem?_eq_some_iff.1 hx
    rcases Nat.lt_or_ge i j with h' | h'
    · have := List.pairwise_iff_getElem.1 hcs i j hi hj' h'; omega
    · have : i = j := by omega
      subst this; omega
  rw [h.mem]
  refine ⟨fun h => h.2, fun hkp => ⟨?_, hkp⟩⟩
  rcases Int.lt_or_le n x with h3 | h3
  · exact h3
  · exfalso
    have h1 : memB a n = false := memB_false.2 fun ⟨r, hr, _, h4⟩ => by
      have := hmax (r.2 + 1) (hall _ (mem_cutsOf.2 ⟨r, by simp [hr], .inr rfl⟩)); omega
    have h2 : memB b n = false := memB_false.2 fun ⟨r, hr, _, h4⟩ => by
      have := hmax (r.2 + 1) (hall _ (mem_cutsOf.2 ⟨r, by simp [hr], .inr rfl⟩)); omega
    rw [h1, h2, hk] at hkp; simp at hkp
theorem comb_nil {keep : Bool → Bool → Bool} (hk : keep false false = false) {a b : List Run} (h : cutsOf (a ++ b) = []) (n : Int) : mem [] n ↔ keep (memB a n) (memB b n) = true := by
  have ha : a = [] := by cases a with | nil => rfl | cons r a => simp [cutsOf] at h
  have hb : b = [] := by subst ha; cases b with | nil => rfl | cons r a => simp [cutsOf] at h
  subst ha; subst hb
  simp [memB, mem_nil, hk]
end Go.BitM
