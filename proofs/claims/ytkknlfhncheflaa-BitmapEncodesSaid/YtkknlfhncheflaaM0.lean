/- Plain lemmas on sets of numbers as runs (layer 5). Conditions: none. -/
namespace Go.BitM
/-! ### Increasing lists -/
def SS (l : List Int) : Prop := l.Pairwise (· < ·)
theorem SS.ext : ∀ {a b : List Int}, SS a → SS b → (∀ x, x ∈ a ↔ x ∈ b) → a = b
  | [], [], _, _, _ => rfl
  | [], y :: b, _, _, h => by have := (h y).2 (by simp); simp at this
  | x :: a, [], _, _, h => by have := (h x).1 (by simp); simp at this
  | x :: a, y :: b, ha, hb, h => by
    have ha' := List.pairwise_cons.1 ha
    have hb' := List.pairwise_cons.1 hb
    have hxy : x = y := by
      rcases List.mem_cons.1 ((h x).1 (by simp)) with e | e
      · exact e
      · rcases List.mem_cons.1 ((h y).2 (by simp)) with e' | e'
        · exact e'.symm
        · have := ha'.1 y e'; have := hb'.1 x e; omega
    subst hxy
    congr 1
    refine SS.ext ha'.2 hb'.2 fun z => ⟨fun hz => ?_, fun hz => ?_⟩
    · rcases List.mem_cons.1 ((h z).1 (by simp [hz])) with e | e
      · have := ha'.1 z hz; omega
      · exact e
    · rcases List.mem_cons.1 ((h z).2 (by simp [hz])) with e | e
      · have := hb'.1 z hz; omega
      · exact e
theorem SS.snoc {l : List Int} {x : Int} (h : SS l) (hx : ∀ y ∈ l, y < x) : SS (l ++ [x]) := by
  unfold SS at *
  rw [List.pairwise_append]
  exact ⟨h, List.pairwise_singleton _ _, fun a ha b hb => by simp at hb; subst hb; exact hx a ha⟩

/-! ### Runs -/
abbrev Run := Int × Int
def mem (rl : List Run) (n : Int) : Prop := ∃ r ∈ rl, r.1 ≤ n ∧ n ≤ r.2
def WF (rl : List Run) : Prop := (∀ r ∈ rl, r.1 ≤ r.2) ∧ rl.Pairwise fun p q => p.2 + 1 < q.1
theorem mem_nil (n : Int) : ¬ mem [] n := fun ⟨_, h, _⟩ => by simp at h
theorem mem_cons {r : Run} {rl : List Run} {n : Int} : mem (r :: rl) n ↔ (r.1 ≤ n ∧ n ≤ r.2) ∨ mem rl n := by
  constructor
  · rintro ⟨q, hq, h⟩
    rcases List.mem_cons.1 hq with rfl | hq
    · exact .inl h
    · exact .inr ⟨q, hq, h⟩
  · rintro (h | ⟨q, hq, h⟩)
    · exact ⟨r, by simp, h⟩
    · exact ⟨q, by simp [hq], h⟩
theorem mem_append {a b : List Run} {n : Int} : mem (a ++ b) n ↔ mem a n ∨ mem b n := by
  induction a with
  | nil => simp [mem_nil]
  | cons r a ih => simp only [List.cons_append, mem_cons, ih]; exact (or_assoc).symm
theorem WF.nil : WF [] := ⟨by simp, List.Pairwise.nil⟩
theorem WF.cons_iff {r : Run} {rl : List Run} : WF (r :: rl) ↔ r.1 ≤ r.2 ∧ (∀ q ∈ rl, r.2 + 1 < q.1) ∧ WF rl := by
  unfold WF
  simp only [List.pairwise_cons, List.mem_cons, forall_eq_or_imp]
  constructor
  · rintro ⟨⟨h1, h2⟩, h3, h4⟩; exact ⟨h1, h3, h2, h4⟩
  · rintro ⟨h1, h3, h2, h4⟩; exact ⟨⟨h1, h2⟩, h3, h4⟩
theorem WF.ext : ∀ {a b : List Run}, WF a → WF b → (∀ n, mem a n ↔ mem b n) → a = b
  | [], [], _, _, _ => rfl
  | [], r :: b, _, hb, h => absurd ((h r.1).2 (mem_cons.2 (.inl ⟨Int.le_refl _, (WF.cons_iff.1 hb).1⟩))) (mem_nil _)
  | r :: a, [], ha, _, h => absurd ((h r.1).1 (mem_cons.2 (.inl ⟨Int.le_refl _, (WF.cons_iff.1 ha).1⟩))) (mem_nil _)
  | r :: a, s :: b, ha, hb, h => by
    obtain ⟨ha1, ha2, ha3⟩ := WF.cons_iff.1 ha
    obtain ⟨hb1, hb2, hb3⟩ := WF.cons_iff.1 hb
    have ga : ∀ n, mem a n → r.2 + 1 < n := fun n ⟨q, hq, h1, _⟩ => by have := ha2 q hq; omega
    have gb : ∀ n, mem b n → s.2 + 1 < n := fun n ⟨q, hq, h1, _⟩ => by have := hb2 q hq; omega
    have e1 : r.1 = s.1 := by
      have h1 := (h r.1).1 (mem_cons.2 (.inl ⟨Int.le_refl _, ha1⟩))
      have h2 := (h s.1).2 (mem_cons.2 (.inl ⟨Int.le_refl _, hb1⟩))
      rcases mem_cons.1 h1 with h1 | h1 <;> rcases mem_cons.1 h2 with h2 | h2
      · omega
      · have := ga _ h2; omega
      · have := gb _ h1; omega
      · have := ga _ h2; have := gb _ h1; omega
    have e2 : r.2 = s.2 := by
      rcases Int.lt_trichotomy r.2 s.2 with hlt | he | hlt
      · have h1 := (h (r.2 + 1)).2 (mem_cons.2 (.inl ⟨by omega, by omega⟩))
        rcases mem_cons.1 h1 with h1 | h1
        · omega
        · have := ga _ h1; omega
      · exact he
      · have h1 := (h (s.2 + 1)).1 (mem_cons.2 (.inl ⟨by omega, by omega⟩))
        rcases mem_cons.1 h1 with h1 | h1
        · omega
        · have := gb _ h1; omega
    have e : r = s := Prod.ext e1 e2
    subst e
    congr 1
    refine WF.ext ha3 hb3 fun n => ⟨fun hn => ?_, fun hn => ?_⟩
    · rcases mem_cons.1 ((h n).1 (mem_cons.2 (.inr hn))) with h1 | h1
      · have := ga n hn; omega
      · exact h1
    · rcases mem_cons.1 ((h n).2 (mem_cons.2 (.inr hn))) with h1 | h1
      · have := gb n hn; omega
      · exact h1
theorem WF.snoc_iff {rl : List Run} {r : Run} : WF (rl ++ [r]) ↔ WF rl ∧ r.1 ≤ r.2 ∧ ∀ q ∈ rl, q.2 + 1 < r.1 := by
  unfold WF
  rw [List.pairwise_append]
  constructor
  · rintro ⟨h1, h2, h3, h4⟩
    exact ⟨⟨fun q hq => h1 q (by simp [hq]), h2⟩, h1 r (by simp), fun q hq => h4 q hq r (by simp)⟩
  · rintro ⟨⟨h1, h2⟩, h3, h4⟩
    refine ⟨fun q hq => ?_, h2, List.pairwise_singleton _ _, fun q hq p hp => by simp at hp; subst hp; exact h4 q hq⟩
    rcases List.mem_append.1 hq with hq | hq
    · exact h1 q hq
    · simp at hq; subst hq; exact h3

/-! ### push -/
/-- Rows that are not less than the first one of the last run are added. -/
def push (rl : List Run) (x : Run) : List Run := match rl.getLast? with
  | some r => if x.1 ≤ r.2 + 1 then rl.dropLast ++ [(r.1, max r.2 x.2)] else rl ++ [x]
  | none => [x]
theorem push_nil (x : Run) : push [] x = [x] := rfl
theorem push_snoc (rl : List Run) (r x : Run) : push (rl ++ [r]) x = if x.1 ≤ r.2 + 1 then rl ++ [(r.1, max r.2 x.2)] else rl ++ [r] ++ [x] := by
  unfold push; rw [List.getLast?_append]; simp
theorem push_ok {rl : List Run} {x : Run} (h : WF rl) (hx : x.1 ≤ x.2) (hl : ∀ r, rl.getLast? = some r → r.1 ≤ x.1) : WF (push rl x) ∧ (∀ n, mem (push rl x) n ↔ mem rl n ∨ (x.1 ≤ n ∧ n ≤ x.2)) ∧ (∃ r, (push rl x).getLast? = some r ∧ r.1 ≤ x.1) ∧ push rl x ≠ [] := by
  rcases List.eq_nil_or_concat rl with rfl | ⟨l, r, rfl⟩
  · simp [push_nil, WF.cons_iff, WF.nil, hx, mem_cons, mem_nil]
  · rw [List.concat_eq_append] at *
    have hr := hl r (by simp)
    obtain ⟨h1, h2, h3⟩ := WF.snoc_iff.1 h
    rw [push_snoc]
    split
    · rename_i hc
      refine ⟨WF.snoc_iff.2 ⟨h1, by simp; omega, h3⟩, fun n => ?_, ⟨(r.1, max r.2 x.2), by simp, hr⟩, by simp⟩
      simp only [mem_append, mem_cons, mem_nil, or_false]
      constructor
      · rintro (h | h)
        · exact .inl (.inl h)
        · by_cases hn : n ≤ r.2
          · exact .inl (.inr ⟨h.1, hn⟩)
          · exact .inr ⟨by omega, by omega⟩
      · rintro ((h | h) | h)
        · exact .inl h
        · exact .inr ⟨h.1, by omega⟩
        · exact .inr ⟨by omega, by omega⟩
    · rename_i hc
      refine ⟨WF.snoc_iff.2 ⟨h, hx, fun q hq => ?_⟩, fun n => ?_, ⟨x, by simp, Int.le_refl _⟩, by simp⟩
      · rcases List.mem_append.1 hq with hq | hq
        · have := h3 q hq; omega
        · simp at hq; subst hq; omega
      · simp only [mem_append, mem_cons, mem_nil, or_false]

/-! ### Rows -/
def upto (a b : Int) : List Int := (List.range (b - a + 1).toNat).map fun i : Nat => a + i
theorem mem_upto {a b n : Int} : n ∈ upto a b ↔ a ≤ n ∧ n ≤ b := by
  unfold upto
  simp only [List.mem_map, List.mem_range]
  constructor
  · rintro ⟨i, hi, rfl⟩; omega
  · rintro ⟨h1, h2⟩; exact ⟨(n - a).toNat, by omega, by omega⟩
theorem upto_snoc {a b : Int} (h : a ≤ b + 1) : upto a (b + 1) = upto a b ++ [b + 1] := by
  unfold upto
  have : (b + 1 - a + 1).toNat = (b - a + 1).toNat + 1 := by omega
  rw [this, List.range_succ, List.map_append]
  congr 1
  show [a + (((b - a + 1).toNat : Nat) : Int)] = [b + 1]
  congr 1; omega
theorem upto_empty {a b : Int} (h : b < a) : upto a b = [] := by unfold upto; rw [show (b - a + 1).toNat = 0 by omega]; rfl
theorem length_upto (a b : Int) : (upto a b).length = (b - a + 1).toNat := by unfold upto; simp
theorem ss_upto (a b : Int) : SS (upto a b) := by
  unfold upto SS
  rw [List.pairwise_map]
  exact List.Pairwise.imp (fun h => by omega) List.pairwise_lt_range
def rows (rl : List Run) : List Int := rl.flatMap fun r => upto r.1 r.2
theorem mem_rows {rl : List Run} {n : Int} : n ∈ rows rl ↔ mem rl n := by
  unfold rows mem
  simp only [List.mem_flatMap, mem_upto]
theorem rows_append (a b : List Run) : rows (a ++ b) = rows a ++ rows b := by simp [rows]
theorem ss_rows : ∀ {rl : List Run}, WF rl → SS (rows rl)
  | [], _ => List.Pairwise.nil
  | r :: rl, h => by
    obtain ⟨h1, h2, h3⟩ := WF.cons_iff.1 h
    show SS (upto r.1 r.2 ++ rows rl)
    unfold SS
    rw [List.pairwise_append]
    refine ⟨ss_upto _ _, ss_rows h3, fun a ha b hb => ?_⟩
    have ha := mem_upto.1 ha
    obtain ⟨q, hq, hb⟩ := mem_rows.1 hb
    have := h2 q hq
    omega
/-- The runs of an increasing list. -/
def toRuns (l : List Int) : List Run := l.foldl (fun rl n => push rl (n, n)) []
theorem toRuns_snoc (l : List Int) (x : Int) : toRuns (l ++ [x]) = push (toRuns l) (x, x) := by simp [toRuns]
theorem toRuns_ok : ∀ (k : Nat) {l : List Int}, l.length = k → l.Pairwise (· ≤ ·) → WF (toRuns l) ∧ (∀ n, mem (toRuns l) n ↔ n ∈ l) ∧ (∀ r, (toRuns l).getLast? = some r → ∃ y ∈ l, r.1 ≤ y)
  | 0, l, hk, _ => by
    have : l = [] := List.eq_nil_of_length_eq_zero hk
    subst this
    exact ⟨WF.nil, fun n => by simp [toRuns, mem_nil], fun r h => by simp [toRuns] at h⟩
  | k + 1, l, hk, hs => by
    rcases List.eq_nil_or_concat l with rfl | ⟨l', x, rfl⟩
    · simp at hk
    · rw [List.concat_eq_append] at *
      rw [List.pairwise_append] at hs
      obtain ⟨h1, h2, h3⟩ := toRuns_ok k (by simpa using hk) hs.1
      rw [toRuns_snoc]
      obtain ⟨p1, p2, ⟨r, p3, p4⟩, _⟩ := push_ok (x := (x, x)) h1 (Int.le_refl _) (fun r hr => by obtain ⟨y, hy, hle⟩ := h3 r hr; have := hs.2.2 y hy x (by simp); simp only; omega)
      refine ⟨p1, fun n => ?_, fun q hq => ⟨x, by simp, by rw [p3] at hq; simp at hq; subst hq; exact p4⟩⟩
      rw [p2, h2]
      simp only [List.mem_append, List.mem_singleton]
      constructor
      · rintro (h | h)
        · exact .inl h
        · exact .inr (by omega)
      · rintro (h | h)
        · exact .inl h
        · exact .inr (by omega)
theorem SS.le {l : List Int} (h : SS l) : l.Pairwise (· ≤ ·) := h.imp fun h => by omega
theorem toRuns_rows {rl : List Run} (h : WF rl) : toRuns (rows rl) = rl := by
  obtain ⟨h1, h2, _⟩ := toRuns_ok _ rfl (ss_rows h).le
  exact WF.ext h1 h fun n => by rw [h2, mem_rows]
theorem rows_toRuns {l : List Int} (h : SS l) : rows (toRuns l) = l := by
  obtain ⟨h1, h2, _⟩ := toRuns_ok _ rfl h.le
  exact SS.ext (ss_rows h1) h fun n => by rw [mem_rows, h2]
theorem length_push_le (rl : List Run) (x : Run) : (push rl x).length ≤ rl.length + 1 := by
  rcases List.eq_nil_or_concat rl with rfl | ⟨l, r, rfl⟩
  · simp [push_nil]
  · rw [List.concat_eq_append, push_snoc]; split <;> simp
theorem length_toRuns_le : ∀ (k : Nat) (l : List Int), l.length = k → (toRuns l).length ≤ k
  | 0, l, hk => by have : l = [] := List.eq_nil_of_length_eq_zero hk; subst this; simp [toRuns]
  | k + 1, l, hk => by
    rcases List.eq_nil_or_concat l with rfl | ⟨l', x, rfl⟩
    · simp at hk
    · rw [List.concat_eq_append, toRuns_snoc]
      have := length_toRuns_le k l' (by simpa using hk)
      have := length_push_le (toRuns l') (x, x)
      omega
end Go.BitM
