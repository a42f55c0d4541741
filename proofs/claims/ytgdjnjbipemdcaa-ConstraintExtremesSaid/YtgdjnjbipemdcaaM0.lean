/- Difference constraints, without a program: what the functions compute, over lists of pairs that stand for maps. Conditions: none. -/
import Derived.Test.YtgdjnjbipemdcaaK1
namespace Go.ConM
open Go Go.SL
open Go.Proofs.Ytgdjnjbipemdcaa (srt length_srt mem_srt srt_perm I64)
set_option linter.unusedVariables false
set_option linter.unusedSimpArgs false
/-- A constraint: the value of t is at most that of f and b more. -/
structure Con where
  f : Int
  t : Int
  b : Int
deriving DecidableEq
abbrev ZM := List (Int × Int)
def encC (c : Con) : List Value := [.int .i64 c.f, .int .i64 c.t, .int .i64 c.b]
theorem enc1C : Enc1 encC 3 := ⟨fun _ => rfl, fun a u h => by simp [encC] at h; rcases h with rfl | rfl | rfl <;> rfl⟩
theorem take_snoc {α : Type} {l : List α} {i : Nat} {x : α} (h : l[i]? = some x) : l.take (i + 1) = l.take i ++ [x] := by rw [List.take_add_one, h]; rfl
theorem take_all {α : Type} {l : List α} {i : Nat} (h : ¬ i < l.length) : l.take i = l := List.take_of_length_le (by omega)
theorem getD_of {α : Type} {l : List α} {i : Nat} {x d : α} (h : l[i]? = some x) : l.getD i d = x := by rw [List.getD_eq_getElem?_getD, h]; rfl
theorem foldl_snoc {α β : Type} (f : β → α → β) (b : β) (l : List α) (x : α) : (l ++ [x]).foldl f b = f (l.foldl f b) x := by rw [List.foldl_append]; rfl
/-- The map of the nodes. -/
def nodesM (l : List Con) : List (Int × Bool) := l.foldl (fun m c => setK KZ (setK KZ m c.f true) c.t true) []
def nodes (l : List Con) : List Int := srt ((nodesM l).map Prod.fst)
theorem mem_set {κ ν : Type} {kt : KT κ} {k : κ} {v : ν} {x : κ} (l : List (κ × ν)) : x ∈ (setK kt l k v).map Prod.fst ↔ x = k ∨ x ∈ l.map Prod.fst := by
  rw [← look_mem (kt := kt), ← look_mem (kt := kt), look_set]
  cases h : kt.eq x k with
  | true => simp [(kt.eq_iff _ _).1 h]
  | false => have : x ≠ k := fun e => by rw [(kt.eq_iff _ _).2 e] at h; simp at h
             simp [this]
theorem len_set {κ ν : Type} {kt : KT κ} {k : κ} {v : ν} : ∀ (l : List (κ × ν)), (setK kt l k v).length ≤ l.length + 1
  | [] => by simp [setK]
  | p :: l => by
    unfold setK
    cases kt.eq k p.1 with
    | true => simp
    | false => have := len_set (kt := kt) (k := k) (v := v) l; simp; omega
theorem mem_nodesM {x : Int} : ∀ (l : List Con) , x ∈ (nodesM l).map Prod.fst ↔ ∃ c ∈ l, x = c.f ∨ x = c.t := by
  intro l
  have key : ∀ (l : List Con) (m : List (Int × Bool)), x ∈ (l.foldl (fun m c => setK KZ (setK KZ m c.f true) c.t true) m).map Prod.fst ↔ x ∈ m.map Prod.fst ∨ ∃ c ∈ l, x = c.f ∨ x = c.t := by
    intro l
    induction l with
    | nil => intro m; simp
    | cons c l ih =>
      intro m
      rw [List.foldl_cons, ih, mem_set, mem_set]
      constructor
      · rintro ((h | h | h) | ⟨d, hd, h⟩)
        · exact .inr ⟨c, by simp, .inr h⟩
        · exact .inr ⟨c, by simp, .inl h⟩
        · exact .inl h
        · exact .inr ⟨d, by simp [hd], h⟩
      · rintro (h | ⟨d, hd, h⟩)
        · exact .inl (.inr (.inr h))
        · rcases List.mem_cons.1 hd with rfl | hd
          · rcases h with h | h
            · exact .inl (.inr (.inl h))
            · exact .inl (.inl h)
          · exact .inr ⟨d, hd, h⟩
  have := key l []
  simpa [nodesM] using this
theorem len_nodesM (l : List Con) : (nodesM l).length ≤ 2 * l.length := by
  have key : ∀ (l : List Con) (m : List (Int × Bool)), (l.foldl (fun m c => setK KZ (setK KZ m c.f true) c.t true) m).length ≤ m.length + 2 * l.length := by
    intro l
    induction l with
    | nil => intro m; simp
    | cons c l ih =>
      intro m
      rw [List.foldl_cons]
      have h1 := ih (setK KZ (setK KZ m c.f true) c.t true)
      have h2 := len_set (kt := KZ) (k := c.t) (v := true) (setK KZ m c.f true)
      have h3 := len_set (kt := KZ) (k := c.f) (v := true) m
      simp only [List.length_cons]; omega
  have := key l []
  simpa [nodesM] using this
theorem mem_nodes {x : Int} {l : List Con} : x ∈ nodes l ↔ ∃ c ∈ l, x = c.f ∨ x = c.t := by
  unfold nodes; rw [mem_srt, mem_nodesM]
theorem len_nodes (l : List Con) : (nodes l).length ≤ 2 * l.length := by
  unfold nodes; rw [length_srt, List.length_map]; exact len_nodesM l
/-! ### The search -/
/-- The least lengths so far, and the last constraints. -/
structure St where
  L : ZM
  B : ZM
/-- One constraint is tried. -/
def step1 (use : Nat → Bool) (i : Nat) (c : Con) (s : St × Int) : St × Int := match lookK KZ s.1.L c.f with
  | none => s
  | some a => if use i = true then (match lookK KZ s.1.L c.t with
      | none => (⟨setK KZ s.1.L c.t (a + c.b), setK KZ s.1.B c.t i⟩, i)
      | some b => if a + c.b < b then (⟨setK KZ s.1.L c.t (a + c.b), setK KZ s.1.B c.t i⟩, i) else s) else s
/-- The first k constraints are tried, once each. -/
def relaxTo (use : Nat → Bool) (l : List Con) (s : St) : Nat → St × Int
  | 0 => (s, -1)
  | k + 1 => match l[k]? with
    | some c => step1 use k c (relaxTo use l s k)
    | none => relaxTo use l s k
def relax (use : Nat → Bool) (l : List Con) (s : St) : St × Int := relaxTo use l s l.length
def rounds (use : Nat → Bool) (l : List Con) : Nat → St → St × Int
  | 0, s => relax use l s
  | k + 1, s => if (relax use l s).2 < 0 then ((relax use l s).1, -1) else rounds use l k (relax use l s).1
def startM (from_ : List Int) : ZM := from_.foldl (fun m n => setK KZ m n 0) []
def search (use : Nat → Bool) (l : List Con) (fr : List Int) : St × Int := rounds use l ((nodes l).length + fr.length) ⟨startM fr, []⟩
theorem relaxTo_succ {use : Nat → Bool} {l : List Con} {s : St} {k : Nat} {c : Con} (h : l[k]? = some c) : relaxTo use l s (k + 1) = step1 use k c (relaxTo use l s k) := by
  conv => lhs; unfold relaxTo
  rw [h]
/-- All numbers are at most m. -/
def Bd (m : Int) (s : St) : Prop := ∀ p ∈ s.L, -m ≤ p.2 ∧ p.2 ≤ m
theorem bd_set {m : Int} {L : ZM} {k v : Int} (h : ∀ p ∈ L, -m ≤ p.2 ∧ p.2 ≤ m) (hv : -m ≤ v ∧ v ≤ m) : ∀ p ∈ setK KZ L k v, -m ≤ p.2 ∧ p.2 ≤ m := by
  induction L with
  | nil => intro p hp; simp [setK] at hp; subst hp; exact hv
  | cons q L ih =>
    intro p hp
    unfold setK at hp
    cases hq : KZ.eq k q.1 with
    | true =>
      rw [hq] at hp
      rcases List.mem_cons.1 hp with rfl | hp
      · exact hv
      · exact h p (List.mem_cons_of_mem _ hp)
    | false =>
      rw [hq] at hp
      rcases List.mem_cons.1 hp with rfl | hp
      · exact h _ (List.mem_cons_self)
      · exact ih (fun p hp => h p (List.mem_cons_of_mem _ hp)) p hp
theorem bd_mono {m n : Int} {s : St} (h : Bd m s) (hmn : m ≤ n) : Bd n s := fun p hp => by have := h p hp; omega
theorem bd_look {m : Int} {s : St} (h : Bd m s) {k a : Int} (hk : lookK KZ s.L k = some a) : -m ≤ a ∧ a ≤ m := h _ (look_of hk)
theorem bd_step {use : Nat → Bool} {i : Nat} {c : Con} {s : St × Int} {m : Int} (h : Bd m s.1) (hc : -4096 ≤ c.b ∧ c.b ≤ 4096) : Bd (m + 4096) (step1 use i c s).1 := by
  unfold step1
  split
  · exact bd_mono h (by omega)
  · rename_i a ha
    have h1 := bd_look h ha
    split
    · split
      · exact bd_set (fun p hp => by have := h p hp; omega) (by omega)
      · split
        · exact bd_set (fun p hp => by have := h p hp; omega) (by omega)
        · exact bd_mono h (by omega)
    · exact bd_mono h (by omega)
theorem bd_relaxTo {use : Nat → Bool} {l : List Con} {s : St} {m : Int} (h : Bd m s) (hb : ∀ c ∈ l, -4096 ≤ c.b ∧ c.b ≤ 4096) : ∀ k : Nat, Bd (m + 4096 * k) (relaxTo use l s k).1
  | 0 => by simpa [relaxTo] using h
  | k + 1 => by
    have ih := bd_relaxTo h hb k (use := use)
    unfold relaxTo
    split
    · rename_i c hc
      exact bd_mono (bd_step ih (hb c (List.mem_of_getElem? hc))) (by omega)
    · exact bd_mono ih (by omega)
theorem last_relaxTo {use : Nat → Bool} {l : List Con} {s : St} : ∀ k : Nat, -1 ≤ (relaxTo use l s k).2 ∧ (relaxTo use l s k).2 < k ∧ (relaxTo use l s k).2 < l.length
  | 0 => by simp [relaxTo]; omega
  | k + 1 => by
    obtain ⟨h1, h2, h3⟩ := last_relaxTo k (use := use) (l := l) (s := s)
    unfold relaxTo
    split
    · rename_i c hc
      have hlt := (List.getElem?_eq_some_iff.1 hc).1
      unfold step1
      split
      · omega
      · split
        · split
          · simp; omega
          · split
            · simp; omega
            · omega
        · omega
    · omega
theorem start_bd (fr : List Int) : Bd 0 ⟨startM fr, []⟩ := by
  have key : ∀ (fr : List Int) (m : ZM), (∀ p ∈ m, -0 ≤ p.2 ∧ p.2 ≤ 0) → ∀ p ∈ fr.foldl (fun m n => setK KZ m n 0) m, -0 ≤ p.2 ∧ p.2 ≤ (0 : Int) := by
    intro fr
    induction fr with
    | nil => intro m h; exact h
    | cons n fr ih => intro m h; exact ih _ (bd_set h (by omega))
  exact key fr [] (by simp)
theorem rounds_succ (use : Nat → Bool) (l : List Con) (k : Nat) (s : St) : rounds use l (k + 1) s = if (relax use l s).2 < 0 then ((relax use l s).1, -1) else rounds use l k (relax use l s).1 := rfl
theorem rounds_stop {use : Nat → Bool} {l : List Con} {k : Nat} {s : St} (h : (relax use l s).2 < 0) : rounds use l (k + 1) s = ((relax use l s).1, -1) := by rw [rounds_succ, if_pos h]
theorem rounds_go {use : Nat → Bool} {l : List Con} {k : Nat} {s : St} (h : ¬ (relax use l s).2 < 0) : rounds use l (k + 1) s = rounds use l k (relax use l s).1 := by rw [rounds_succ, if_neg h]
/-! ### Components -/
/-- The set that a map of bools stands for. -/
def Tru (m : List (Int × Bool)) : Prop := ∀ p ∈ m, p.2 = true
def Closed (l : List Con) (P : Int → Prop) : Prop := ∀ c ∈ l, P c.f ↔ P c.t
/-- The nodes that are connected with n. -/
structure Comp (l : List Con) (n : Int) (m : List (Int × Bool)) : Prop where
  tru : Tru m
  nod : (m.map Prod.fst).Nodup
  has : n ∈ m.map Prod.fst
  closed : Closed l (· ∈ m.map Prod.fst)
  least : ∀ P : Int → Prop, Closed l P → P n → ∀ k ∈ m.map Prod.fst, P k
theorem tru_look {m : List (Int × Bool)} (h : Tru m) (k : Int) : ((lookK KZ m k).map encVB).getD (.bool false) = .bool (decide (k ∈ m.map Prod.fst)) := by
  cases hk : lookK KZ m k with
  | none =>
    have : ¬ k ∈ m.map Prod.fst := fun h2 => by rw [← look_mem (kt := KZ), hk] at h2; simp at h2
    rw [decide_eq_false this]; rfl
  | some v =>
    have h1 := look_of hk
    have h2 := h _ h1
    simp only at h2
    rw [decide_eq_true (List.mem_map.2 ⟨_, h1, rfl⟩), h2]; rfl
theorem tru_set {m : List (Int × Bool)} (h : Tru m) (k : Int) : Tru (setK KZ m k true) := by
  induction m with
  | nil => intro p hp; simp [setK] at hp; subst hp; rfl
  | cons q m ih =>
    intro p hp
    unfold setK at hp
    cases hq : KZ.eq k q.1 with
    | true =>
      rw [hq] at hp
      rcases List.mem_cons.1 hp with rfl | hp
      · rfl
      · exact h p (List.mem_cons_of_mem _ hp)
    | false =>
      rw [hq] at hp
      rcases List.mem_cons.1 hp with rfl | hp
      · exact h _ (List.mem_cons_self)
      · exact ih (fun p hp => h p (List.mem_cons_of_mem _ hp)) p hp
theorem nod_set {κ ν : Type} {kt : KT κ} {k : κ} {v : ν} {m : List (κ × ν)} (h : (m.map Prod.fst).Nodup) : ((setK kt m k v).map Prod.fst).Nodup := by
  induction m with
  | nil => simp [setK]
  | cons q m ih =>
    obtain ⟨h1, h2⟩ := List.nodup_cons.1 h
    unfold setK
    cases hq : kt.eq k q.1 with
    | true => simp only [cond_true, List.map_cons]; rw [(kt.eq_iff _ _).1 hq]; exact h
    | false =>
      simp only [cond_false, List.map_cons]
      refine List.nodup_cons.2 ⟨fun hm => ?_, ih h2⟩
      rcases (mem_set m).1 hm with h3 | h3
      · rw [(kt.eq_iff _ _).2 h3.symm] at hq; simp at hq
      · exact h1 h3
theorem nodup_le {α : Type} [DecidableEq α] : ∀ {a b : List α}, a.Nodup → (∀ x ∈ a, x ∈ b) → a.length ≤ b.length
  | [], b, _, _ => by simp
  | x :: a, b, h, hs => by
    obtain ⟨h1, h2⟩ := List.nodup_cons.1 h
    have hx := hs x (by simp)
    have := nodup_le (a := a) (b := b.erase x) h2 fun y hy => (List.mem_erase_of_ne (fun e => by subst e; exact h1 hy)).2 (hs y (by simp [hy]))
    rw [List.length_erase_of_mem hx] at this
    have := List.length_pos_of_mem hx
    simp only [List.length_cons]; omega
/-- All nodes of a list of constraints, and one more. -/
def allN (l : List Con) (n : Int) : List Int := n :: l.flatMap fun c => [c.f, c.t]
theorem len_allN (l : List Con) (n : Int) : (allN l n).length = 1 + 2 * l.length := by
  unfold allN
  rw [List.length_cons]
  induction l with
  | nil => rfl
  | cons c l ih => simp only [List.flatMap_cons, List.length_append, List.length_cons, List.length_nil] at ih ⊢; omega
theorem mem_allN {l : List Con} {n x : Int} : x ∈ allN l n ↔ x = n ∨ ∃ c ∈ l, x = c.f ∨ x = c.t := by
  unfold allN; simp
/-- Between two rounds: what has been found. -/
structure CompI (l : List Con) (n : Int) (m : List (Int × Bool)) : Prop where
  tru : Tru m
  nod : (m.map Prod.fst).Nodup
  has : n ∈ m.map Prod.fst
  sub : ∀ k ∈ m.map Prod.fst, k ∈ allN l n
  least : ∀ P : Int → Prop, Closed l P → P n → ∀ k ∈ m.map Prod.fst, P k
theorem CompI.le {l : List Con} {n : Int} {m : List (Int × Bool)} (h : CompI l n m) : m.length ≤ 1 + 2 * l.length := by
  have := nodup_le h.nod h.sub
  rwa [List.length_map, len_allN] at this
theorem CompI.grow {l : List Con} {n : Int} {m : List (Int × Bool)} (h : CompI l n m) {c : Con} (hc : c ∈ l) (hne : c.f ∈ m.map Prod.fst ∨ c.t ∈ m.map Prod.fst) : CompI l n (setK KZ (setK KZ m c.f true) c.t true) := by
  refine ⟨tru_set (tru_set h.tru _) _, nod_set (nod_set h.nod), ?_, fun k hk => ?_, fun P hP hn k hk => ?_⟩
  · rw [mem_set, mem_set]; exact .inr (.inr h.has)
  · rw [mem_set, mem_set] at hk
    rcases hk with rfl | rfl | hk
    · exact mem_allN.2 (.inr ⟨c, hc, .inr rfl⟩)
    · exact mem_allN.2 (.inr ⟨c, hc, .inl rfl⟩)
    · exact h.sub k hk
  · have hl := h.least P hP hn
    have hft : P c.f ∧ P c.t := by
      rcases hne with h1 | h1
      · have := hl _ h1; exact ⟨this, (hP c hc).1 this⟩
      · have := hl _ h1; exact ⟨(hP c hc).2 this, this⟩
    rw [mem_set, mem_set] at hk
    rcases hk with rfl | rfl | hk
    · exact hft.2
    · exact hft.1
    · exact hl k hk
theorem len_new {κ ν : Type} {kt : KT κ} {k : κ} {v : ν} : ∀ {m : List (κ × ν)}, k ∉ m.map Prod.fst → (setK kt m k v).length = m.length + 1
  | [], _ => rfl
  | q :: m, h => by
    unfold setK
    have : kt.eq k q.1 = false := by
      cases hq : kt.eq k q.1 with
      | false => rfl
      | true => exact absurd (by rw [(kt.eq_iff _ _).1 hq]; simp) h
    rw [this]
    have := len_new (kt := kt) (v := v) (m := m) (fun hm => h (by simp only [List.map_cons]; exact List.mem_cons_of_mem _ hm))
    simp [this]
theorem len_old {κ ν : Type} {kt : KT κ} {k : κ} {v : ν} : ∀ {m : List (κ × ν)}, k ∈ m.map Prod.fst → (setK kt m k v).length = m.length
  | [], h => by simp at h
  | q :: m, h => by
    unfold setK
    cases hq : kt.eq k q.1 with
    | true => simp
    | false =>
      have hk : k ∈ m.map Prod.fst := by
        rcases List.mem_cons.1 h with h | h
        · rw [(kt.eq_iff _ _).2 h] at hq; simp at hq
        · exact h
      simp [len_old hk]
theorem len_grow {m : List (Int × Bool)} {f t : Int} (h : ¬ (f ∈ m.map Prod.fst ↔ t ∈ m.map Prod.fst)) : (setK KZ (setK KZ m f true) t true).length = m.length + 1 := by
  by_cases hf : f ∈ m.map Prod.fst
  · have ht : t ∉ m.map Prod.fst := fun ht => h ⟨fun _ => ht, fun _ => hf⟩
    have h1 := len_old (kt := KZ) (v := true) hf
    have h2 : t ∉ (setK KZ m f true).map Prod.fst := fun hm => by
      rcases (mem_set m).1 hm with h3 | h3
      · subst h3; exact ht hf
      · exact ht h3
    rw [len_new h2, h1]
  · have ht : t ∈ m.map Prod.fst := Classical.byContradiction fun ht => h ⟨fun h1 => absurd h1 hf, fun h1 => absurd h1 ht⟩
    have h1 := len_new (kt := KZ) (v := true) hf
    have h2 : t ∈ (setK KZ m f true).map Prod.fst := (mem_set m).2 (.inr ht)
    rw [len_old h2, h1]
end Go.ConM
