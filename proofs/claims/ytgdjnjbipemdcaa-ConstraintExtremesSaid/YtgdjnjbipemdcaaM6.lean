/- Distances, without a program. Conditions: none. -/
import Derived.Test.YtgdjnjbipemdcaaK17
namespace Go.Proofs.Ytgdjnjbipemdcaa
open Go Go.SL Go.ConM
set_option linter.unusedVariables false
set_option linter.unusedSimpArgs false
/-- The constraints of a component. -/
noncomputable def ownL (l : List Con) (a : Int) : List Con := l.filter fun c => decide (c.f ∈ compX l a)
theorem mem_own {l : List Con} {a : Int} {c : Con} : c ∈ ownL l a ↔ c ∈ l ∧ c.f ∈ compX l a := by unfold ownL; rw [List.mem_filter]; simp
theorem own_small {l : List Con} {a : Int} (h : Small l) : Small (ownL l a) := ⟨fun c hc => h.1 c (mem_own.1 hc).1, Nat.le_trans (List.length_filter_le _ _) h.2⟩
theorem own_inb {l : List Con} {a : Int} (h : InB l) : InB (ownL l a) := fun c hc => h c (mem_own.1 hc).1
theorem own_nodes {l : List Con} {a : Int} (ha : a ∈ nodes l) (x : Int) : x ∈ nodes (ownL l a) ↔ x ∈ compX l a := by
  have hx := compX_spec l a
  have h1 : ∀ y, y ∈ nodes (ownL l a) → y ∈ compX l a := fun y hy => by
    obtain ⟨c, hc, h⟩ := mem_nodes.1 hy
    obtain ⟨hc1, hc2⟩ := mem_own.1 hc
    rcases h with rfl | rfl
    · exact hc2
    · exact (hx.closed c hc1).1 hc2
  refine ⟨h1 x, fun h => ?_⟩
  refine hx.least (fun y => y ∈ nodes (ownL l a)) (fun c hc => ⟨fun h => ?_, fun h => ?_⟩) ?_ x h
  · exact mem_nodes.2 ⟨c, mem_own.2 ⟨hc, h1 _ h⟩, .inr rfl⟩
  · exact mem_nodes.2 ⟨c, mem_own.2 ⟨hc, (hx.closed c hc).2 (h1 _ h)⟩, .inl rfl⟩
  · obtain ⟨c, hc, h⟩ := mem_nodes.1 ha
    have haC := hx.has
    rcases h with rfl | h
    · exact mem_nodes.2 ⟨c, mem_own.2 ⟨hc, haC⟩, .inl rfl⟩
    · exact mem_nodes.2 ⟨c, mem_own.2 ⟨hc, (hx.closed c hc).2 (by rw [← h]; exact haC)⟩, .inr h⟩
theorem own_sub {l : List Con} {a x : Int} (h : x ∈ nodes (ownL l a)) : x ∈ nodes l := by
  obtain ⟨c, hc, h⟩ := mem_nodes.1 h
  exact mem_nodes.2 ⟨c, (mem_own.1 hc).1, h⟩
theorem own_len {l : List Con} {a : Int} : (nodes (ownL l a)).length ≤ (nodes l).length := nodup_le (nodes_ss _).nodup fun x h => own_sub h
theorem known_own {l : List Con} {a : Int} (ha : a ∈ nodes l) : (search (useC l (compX l a)) l (compX l a)).2 < 0 ↔ Feas (ownL l a) := by
  rw [search_eq, relax_iff, stab_F, sq_F, used_C]
  show StF (ownL l a) (RF (ownL l a) (fnL (startM (compX l a))) _) ↔ _
  have hz : zeroF (compX l a) = zeroF (nodes (ownL l a)) := zeroF_ext fun x => (own_nodes ha x).symm
  rw [start_F, hz]
  have hlen := own_len (l := l) (a := a)
  exact rf_same (by omega) (by omega)
theorem relF_own {C : List Int} : ∀ {l : List Con} {p : Lbl × Bool}, (∀ c ∈ l, c.f ∈ C → c.t ∈ C) → (∀ x, (p.1 x).isSome = true → x ∈ C) → relF l p = relF (l.filter fun c => decide (c.f ∈ C)) p ∧ ∀ x, ((relF l p).1 x).isSome = true → x ∈ C
  | [], p, _, hp => ⟨rfl, hp⟩
  | c :: l, p, hl, hp => by
    have hl' : ∀ c ∈ l, c.f ∈ C → c.t ∈ C := fun d hd => hl d (List.mem_cons_of_mem _ hd)
    by_cases hc : c.f ∈ C
    · rw [List.filter_cons_of_pos (by simpa using hc)]
      show relF l (stepF c p) = relF _ (stepF c p) ∧ ∀ x, ((relF l (stepF c p)).1 x).isSome = true → x ∈ C
      refine relF_own hl' fun x hx => ?_
      unfold stepF at hx
      split at hx
      · dsimp only [setF] at hx
        split at hx
        · rename_i e; subst e; exact hl c (by simp) hc
        · exact hp x hx
      · exact hp x hx
    · rw [List.filter_cons_of_neg (by simpa using hc)]
      have hs : stepF c p = p := by
        unfold stepF updC
        cases ha : p.1 c.f with
        | none => simp
        | some y => exact absurd (hp c.f (by rw [ha]; rfl)) hc
      show relF l (stepF c p) = relF _ p ∧ ∀ x, ((relF l (stepF c p)).1 x).isSome = true → x ∈ C
      rw [hs]
      exact relF_own hl' hp
theorem rf_own {l : List Con} {a : Int} : ∀ k, RF l (zeroF [a]) k = RF (ownL l a) (zeroF [a]) k ∧ ∀ x, (RF l (zeroF [a]) k x).isSome = true → x ∈ compX l a
  | 0 => ⟨rfl, fun x h => by
    have hx := compX_spec l a
    unfold RF zeroF at h
    split at h
    · rename_i h1; rw [List.mem_singleton] at h1; subst h1; exact hx.has
    · simp at h⟩
  | k + 1 => by
    obtain ⟨h1, h2⟩ := rf_own (l := l) (a := a) k
    have hx := compX_spec l a
    obtain ⟨h3, h4⟩ := relF_own (C := compX l a) (l := l) (p := (RF l (zeroF [a]) k, false)) (fun c hc h => (hx.closed c hc).1 h) h2
    refine ⟨?_, h4⟩
    show (relF l (RF l (zeroF [a]) k, false)).1 = (relF (ownL l a) (RF (ownL l a) (zeroF [a]) k, false)).1
    rw [h3, ← h1]; rfl
/-- The labels of the search from one node. -/
noncomputable def disF (l : List Con) (a : Int) : Lbl := RF (ownL l a) (zeroF [a]) (nodes l).length
noncomputable def distR (l : List Con) (a b : Int) : Int × Int := if a ∈ nodes l ∧ b ∈ nodes l then (if Feas (ownL l a) then (match disF l a b with
  | some n => (n, 0)
  | none => (0, 22)) else (0, 21)) else (0, 10)
theorem disF_st {l : List Con} {a : Int} (h : Feas (ownL l a)) : StF (ownL l a) (disF l a) := feas_stab h [a] (by have := own_len (l := l) (a := a); omega)
theorem dis_search {l : List Con} {a : Int} (h : Feas (ownL l a)) : fnL (search (fun _ => true) l [a]).1.L = disF l a := by
  rw [search_eq]
  show fnL (SqA l [a] ((nodes l).length + 1 + 1)).L = _
  have hlen := own_len (l := l) (a := a)
  rw [sqA_F, (rf_own _).1]
  exact (rf_eq (by omega) (by omega) (disF_st h)).symm
theorem dist_eq (l : List Con) (a b : Int) : dist l a b = distR l a b := by
  unfold dist distR
  by_cases hab : a ∈ nodes l ∧ b ∈ nodes l
  · rw [if_pos hab]
    have hk := known_own hab.1
    by_cases hF : Feas (ownL l a)
    · have h0 : knownE l a b = 0 := by unfold knownE; rw [if_pos hab, if_neg (by have := hk.2 hF; omega)]
      rw [if_neg (by rw [h0]; simp), if_pos hF]
      have := congrFun (dis_search hF) b
      have h2 : lookK KZ (search (fun _ => true) l [a]).1.L b = disF l a b := this
      rw [h2]
      cases disF l a b <;> rfl
    · have h0 : knownE l a b = 21 := by unfold knownE; rw [if_pos hab, if_pos (Int.not_lt.1 fun h => hF (hk.1 h))]
      rw [if_pos (by rw [h0]; simp), if_neg hF, h0]
  · have h0 : knownE l a b = 10 := by unfold knownE; rw [if_neg hab]
    rw [if_neg hab, if_pos (by rw [h0]; simp), h0]
end Go.Proofs.Ytgdjnjbipemdcaa
