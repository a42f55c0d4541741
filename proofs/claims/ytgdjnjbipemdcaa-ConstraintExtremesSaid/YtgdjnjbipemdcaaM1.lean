/- Components and searches are told by sets alone, without a program. Conditions: none. -/
import Derived.Test.YtgdjnjbipemdcaaM0
namespace Go.ConM
open Go Go.SL
open Go.Proofs.Ytgdjnjbipemdcaa (srt length_srt mem_srt srt_perm I64)
set_option linter.unusedVariables false
set_option linter.unusedSimpArgs false
theorem comp_exists (l : List Con) (n : Int) : ∃ m, Comp l n m := by
  have key : ∀ (k : Nat) (m : List (Int × Bool)), CompI l n m → 1 + 2 * l.length - m.length = k → ∃ m, Comp l n m := by
    intro k
    induction k using Nat.strongRecOn with
    | ind k ih =>
      intro m hm hk
      by_cases hc : Closed l (· ∈ m.map Prod.fst)
      · exact ⟨m, hm.tru, hm.nod, hm.has, hc, hm.least⟩
      · unfold Closed at hc
        have : ∃ c, c ∈ l ∧ ¬ (c.f ∈ m.map Prod.fst ↔ c.t ∈ m.map Prod.fst) := Classical.byContradiction fun h => hc fun c hcl => Classical.byContradiction fun h2 => h ⟨c, hcl, h2⟩
        obtain ⟨c, hcl, hne⟩ := this
        have hlg := len_grow hne
        have hg := hm.grow hcl (Classical.byContradiction fun h => hne ⟨fun h1 => absurd (.inl h1) h, fun h1 => absurd (.inr h1) h⟩)
        have hle := hg.le
        exact ih _ (by omega) _ hg rfl
  refine key _ [(n, true)] ⟨fun p hp => ?_, by simp, by simp, fun k hk => ?_, fun P hP hn k hk => ?_⟩ rfl
  · simp at hp; subst hp; rfl
  · simp at hk; subst hk; exact mem_allN.2 (.inl rfl)
  · simp at hk; subst hk; exact hn
/-- The nodes connected with n. -/
noncomputable def compX (l : List Con) (n : Int) : List Int := (Classical.choose (comp_exists l n)).map Prod.fst
theorem compX_spec (l : List Con) (n : Int) : Comp l n (Classical.choose (comp_exists l n)) := Classical.choose_spec (comp_exists l n)
theorem Comp.iff {l : List Con} {n : Int} {m m' : List (Int × Bool)} (h : Comp l n m) (h' : Comp l n m') (k : Int) : k ∈ m.map Prod.fst ↔ k ∈ m'.map Prod.fst :=
  ⟨fun hk => h.least (· ∈ m'.map Prod.fst) h'.closed h'.has k hk, fun hk => h'.least (· ∈ m.map Prod.fst) h.closed h.has k hk⟩
theorem comp_iff {l : List Con} {n : Int} {m : List (Int × Bool)} (h : Comp l n m) (k : Int) : k ∈ m.map Prod.fst ↔ k ∈ compX l n := h.iff (compX_spec l n) k
theorem compX_self (l : List Con) (n : Int) : n ∈ compX l n := (compX_spec l n).has
theorem compX_closed (l : List Con) (n : Int) : Closed l (· ∈ compX l n) := (compX_spec l n).closed
theorem compX_least {l : List Con} {n : Int} {P : Int → Prop} (hP : Closed l P) (hn : P n) : ∀ k ∈ compX l n, P k := (compX_spec l n).least P hP hn
/-! ### Searches told by look-ups -/
def Eqv (s t : St) : Prop := (∀ k, lookK KZ s.L k = lookK KZ t.L k) ∧ ∀ k, lookK KZ s.B k = lookK KZ t.B k
theorem Eqv.refl (s : St) : Eqv s s := ⟨fun _ => rfl, fun _ => rfl⟩
theorem eqv_set {L M : ZM} (h : ∀ k, lookK KZ L k = lookK KZ M k) (k v : Int) : ∀ j, lookK KZ (setK KZ L k v) j = lookK KZ (setK KZ M k v) j := fun j => by rw [look_set, look_set, h]
theorem eqv_step {use use' : Nat → Bool} {i : Nat} {c : Con} {s t : St × Int} (hu : use i = use' i) (h : Eqv s.1 t.1) (h2 : s.2 = t.2) : Eqv (step1 use i c s).1 (step1 use' i c t).1 ∧ (step1 use i c s).2 = (step1 use' i c t).2 := by
  unfold step1
  rw [h.1 c.f, h.1 c.t, hu]
  split
  · exact ⟨h, h2⟩
  · split
    · split
      · exact ⟨⟨eqv_set h.1 _ _, eqv_set h.2 _ _⟩, rfl⟩
      · split
        · exact ⟨⟨eqv_set h.1 _ _, eqv_set h.2 _ _⟩, rfl⟩
        · exact ⟨h, h2⟩
    · exact ⟨h, h2⟩
theorem eqv_relaxTo {use use' : Nat → Bool} {l : List Con} {s t : St} (hu : ∀ i, i < l.length → use i = use' i) (h : Eqv s t) : ∀ k : Nat, Eqv (relaxTo use l s k).1 (relaxTo use' l t k).1 ∧ (relaxTo use l s k).2 = (relaxTo use' l t k).2
  | 0 => ⟨h, rfl⟩
  | k + 1 => by
    obtain ⟨h1, h2⟩ := eqv_relaxTo hu h k
    cases hc : l[k]? with
    | none => unfold relaxTo; rw [hc]; exact ⟨h1, h2⟩
    | some c => rw [relaxTo_succ hc, relaxTo_succ hc]; exact eqv_step (hu k (List.getElem?_eq_some_iff.1 hc).1) h1 h2
theorem eqv_rounds {use use' : Nat → Bool} {l : List Con} (hu : ∀ i, i < l.length → use i = use' i) : ∀ (k : Nat) {s t : St}, Eqv s t → Eqv (rounds use l k s).1 (rounds use' l k t).1 ∧ (rounds use l k s).2 = (rounds use' l k t).2
  | 0, s, t, h => eqv_relaxTo hu h _
  | k + 1, s, t, h => by
    obtain ⟨h1, h2⟩ := eqv_relaxTo hu h l.length
    have h3 : (relax use l s).2 = (relax use' l t).2 := h2
    rw [rounds_succ, rounds_succ, h3]
    split
    · exact ⟨h1, rfl⟩
    · exact eqv_rounds hu k h1
theorem look_start (fr : List Int) (k : Int) : lookK KZ (startM fr) k = if k ∈ fr then some 0 else none := by
  have key : ∀ (fr : List Int) (m : ZM), lookK KZ (fr.foldl (fun m n => setK KZ m n 0) m) k = if k ∈ fr then some 0 else lookK KZ m k := by
    intro fr
    induction fr with
    | nil => intro m; simp
    | cons n fr ih =>
      intro m
      rw [List.foldl_cons, ih, look_set]
      have he : KZ.eq k n = decide (k = n) := rfl
      rw [he]
      by_cases h1 : k ∈ fr
      · rw [if_pos h1, if_pos (List.mem_cons_of_mem _ h1)]
      · rw [if_neg h1]
        by_cases h2 : k = n
        · subst h2; simp
        · simp [h1, h2]
  have := key fr []
  simpa [lookK, startM] using this
/-- Another order of the first nodes. -/
theorem search_eqv {use use' : Nat → Bool} {l : List Con} {fr fr' : List Int} (hu : ∀ i, i < l.length → use i = use' i) (hf : ∀ k, k ∈ fr ↔ k ∈ fr') (hl : fr.length = fr'.length) : Eqv (search use l fr).1 (search use' l fr').1 ∧ (search use l fr).2 = (search use' l fr').2 := by
  unfold search
  rw [hl]
  exact eqv_rounds hu _ ⟨fun k => by simp only [look_start, hf], fun _ => rfl⟩
/-- Which constraints lie in a set of nodes. -/
def useC (l : List Con) (C : List Int) (i : Nat) : Bool := match l[i]? with
  | some c => decide (c.f ∈ C)
  | none => false
open Classical in
/-- The error of two nodes. -/
noncomputable def knownE (l : List Con) (a b : Int) : Int := if a ∈ nodes l ∧ b ∈ nodes l then (if (search (useC l (compX l a)) l (compX l a)).2 ≥ 0 then 21 else 0) else 10
theorem known_search {l : List Con} {a : Int} {m : List (Int × Bool)} {ss : List Int} (h : Comp l a m) (hs : ss.Perm (m.map Prod.fst)) : (search (useC l (m.map Prod.fst)) l ss).2 = (search (useC l (compX l a)) l (compX l a)).2 := by
  have hx := compX_spec l a
  refine (search_eqv (fun i hi => ?_) (fun k => by rw [hs.mem_iff]; exact comp_iff h k) ?_).2
  · unfold useC
    split
    · rw [decide_eq_decide]; exact comp_iff h _
    · rfl
  · rw [hs.length_eq]
    have h1 := nodup_le h.nod fun k hk => (comp_iff h k).1 hk
    have h2 := nodup_le (a := compX l a) hx.nod fun k hk => (comp_iff h k).2 hk
    omega
/-- The distance and its error. -/
noncomputable def dist (l : List Con) (a b : Int) : Int × Int := if knownE l a b ≠ 0 then (0, knownE l a b) else match lookK KZ (search (fun _ => true) l [a]).1.L b with
  | some n => (n, 0)
  | none => (0, 22)
def solE (l : List Con) : Int := if (search (fun _ => true) l (nodes l)).2 ≥ 0 then 21 else 0
theorem keys_step {use : Nat → Bool} {i : Nat} {c : Con} {s : St × Int} {P : Int → Prop} (h : ∀ p ∈ s.1.L, P p.1) (hc : P c.t) : ∀ p ∈ (step1 use i c s).1.L, P p.1 := by
  have hset : ∀ v, ∀ p ∈ setK KZ s.1.L c.t v, P p.1 := fun v p hp => by
    have := (mem_set (kt := KZ) (x := p.1) s.1.L).1 (List.mem_map.2 ⟨p, hp, rfl⟩)
    rcases this with h1 | h1
    · rw [h1]; exact hc
    · obtain ⟨q, hq, he⟩ := List.mem_map.1 h1; rw [← he]; exact h q hq
  unfold step1
  split
  · exact h
  · split
    · split
      · exact hset _
      · split
        · exact hset _
        · exact h
    · exact h
theorem keys_relaxTo {use : Nat → Bool} {l : List Con} {s : St} {P : Int → Prop} (h : ∀ p ∈ s.L, P p.1) (hl : ∀ c ∈ l, P c.t) : ∀ k : Nat, ∀ p ∈ (relaxTo use l s k).1.L, P p.1
  | 0 => h
  | k + 1 => by
    cases hc : l[k]? with
    | none => unfold relaxTo; rw [hc]; exact keys_relaxTo h hl k
    | some c => rw [relaxTo_succ hc]; exact keys_step (keys_relaxTo h hl k) (hl c (List.mem_of_getElem? hc))
theorem keys_rounds {use : Nat → Bool} {l : List Con} {P : Int → Prop} (hl : ∀ c ∈ l, P c.t) : ∀ (k : Nat) {s : St}, (∀ p ∈ s.L, P p.1) → ∀ p ∈ (rounds use l k s).1.L, P p.1
  | 0, s, h => keys_relaxTo h hl _
  | k + 1, s, h => by
    rw [rounds_succ]
    split
    · exact keys_relaxTo h hl _
    · exact keys_rounds hl k (keys_relaxTo h hl _)
theorem keys_search {use : Nat → Bool} {l : List Con} {fr : List Int} : ∀ p ∈ (search use l fr).1.L, p.1 ∈ fr ∨ ∃ c ∈ l, p.1 = c.t := by
  refine keys_rounds (P := fun x => x ∈ fr ∨ ∃ c ∈ l, x = c.t) (fun c hc => .inr ⟨c, hc, rfl⟩) _ fun p hp => ?_
  have h1 : (lookK KZ (startM fr) p.1).isSome = true := look_mem.2 (List.mem_map.2 ⟨p, hp, rfl⟩)
  rw [look_start] at h1
  split at h1
  · rename_i h2; exact .inl h2
  · simp at h1
theorem nod_step {use : Nat → Bool} {i : Nat} {c : Con} {s : St × Int} (h : (s.1.L.map Prod.fst).Nodup) : ((step1 use i c s).1.L.map Prod.fst).Nodup := by
  unfold step1
  split
  · exact h
  · split
    · split
      · exact nod_set h
      · split
        · exact nod_set h
        · exact h
    · exact h
theorem nod_relaxTo {use : Nat → Bool} {l : List Con} {s : St} (h : (s.L.map Prod.fst).Nodup) : ∀ k : Nat, ((relaxTo use l s k).1.L.map Prod.fst).Nodup
  | 0 => h
  | k + 1 => by
    cases hc : l[k]? with
    | none => unfold relaxTo; rw [hc]; exact nod_relaxTo h k
    | some c => rw [relaxTo_succ hc]; exact nod_step (nod_relaxTo h k)
theorem nod_rounds {use : Nat → Bool} {l : List Con} : ∀ (k : Nat) {s : St}, (s.L.map Prod.fst).Nodup → ((rounds use l k s).1.L.map Prod.fst).Nodup
  | 0, s, h => nod_relaxTo h _
  | k + 1, s, h => by
    rw [rounds_succ]
    split
    · exact nod_relaxTo h _
    · exact nod_rounds k (nod_relaxTo h _)
theorem nod_start (fr : List Int) : ((startM fr).map Prod.fst).Nodup := by
  have key : ∀ (fr : List Int) (m : ZM), (m.map Prod.fst).Nodup → ((fr.foldl (fun m n => setK KZ m n 0) m).map Prod.fst).Nodup := by
    intro fr
    induction fr with
    | nil => intro m h; exact h
    | cons n fr ih => intro m h; exact ih _ (nod_set h)
  exact key fr [] (by simp)
theorem nod_search {use : Nat → Bool} {l : List Con} {fr : List Int} : ((search use l fr).1.L.map Prod.fst).Nodup := nod_rounds _ (nod_start fr)
theorem len_search {use : Nat → Bool} {l : List Con} {fr : List Int} : (search use l fr).1.L.length ≤ fr.length + l.length := by
  have h := nodup_le (a := (search use l fr).1.L.map Prod.fst) (b := fr ++ l.map (·.t)) nod_search fun k hk => by
    obtain ⟨p, hp, rfl⟩ := List.mem_map.1 hk
    rw [List.mem_append]
    rcases keys_search p hp with h1 | ⟨c, hc, h1⟩
    · exact .inl h1
    · exact .inr (List.mem_map.2 ⟨c, hc, h1.symm⟩)
  simpa using h
theorem last_rounds {use : Nat → Bool} {l : List Con} : ∀ (k : Nat) (s : St), -1 ≤ (rounds use l k s).2 ∧ (rounds use l k s).2 < l.length
  | 0, s => by have := last_relaxTo (use := use) (l := l) (s := s) l.length; exact ⟨this.1, this.2.2⟩
  | k + 1, s => by
    rw [rounds_succ]
    split
    · simp; omega
    · exact last_rounds k _
theorem last_search {use : Nat → Bool} {l : List Con} {fr : List Int} : -1 ≤ (search use l fr).2 ∧ (search use l fr).2 < l.length := last_rounds _ _
end Go.ConM
