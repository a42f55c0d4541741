/- Owned things that hide what they are made of: opening and closing around a call. Conditions: none. -/
import Derived.Test.YtecmigildpkigaaGreatSlY
import Derived.Test.YtecmigildpkigaaGreatSl9
namespace Go.SL
open Go Go.RowKit
set_option linter.unusedVariables false
set_option linter.unusedSimpArgs false
theorem mun_sub_l {m m' : Mem} {w : World} (h : MSub (mun m m') w) : MSub m w := fun i o hi => h i o (mun_l hi)
theorem mun_sub_r {m m' : Mem} {w : World} (hd : MDisj m m') (h : MSub (mun m m') w) : MSub m' w := fun i o hi => h i o (mun_r hd hi)
theorem Own.unstar {σ : World} {r r' : Res} {F : List Res} {w : World} (h : Own σ (SL.star r r' :: F) w) : Own σ (r :: r' :: F) w := by
  obtain ⟨h1, h2, h3, l, hl, hm, hd⟩ := h
  match l, hl with
  | p :: l, hl =>
    simp only [List.map_cons, List.cons.injEq] at hl
    obtain ⟨e1, e2⟩ := hl
    obtain ⟨d1, d2⟩ := List.pairwise_cons.1 hd
    obtain ⟨hp, hs⟩ := hm p (by simp)
    rw [e1] at hp
    obtain ⟨m1, m2, hdj, hpe, hr1, hr2⟩ := hp
    rw [hpe] at hs
    have hsplit : ∀ x ∈ l, ∀ i, (m1 i = none ∧ m2 i = none) ∨ x.2 i = none := fun x hx i => by
      rcases d1 x hx i with a | a
      · rw [hpe] at a
        cases h1 : m1 i with
        | some o => rw [mun_l h1] at a; simp at a
        | none => unfold mun at a; rw [h1] at a; exact .inl ⟨rfl, a⟩
      · exact .inr a
    refine ⟨h1, h2, h3, (r, m1) :: (r', m2) :: l, by simp [e2], fun x hx => ?_, List.pairwise_cons.2 ⟨fun x hx => ?_, List.pairwise_cons.2 ⟨fun x hx => ?_, d2⟩⟩⟩
    · rcases List.mem_cons.1 hx with rfl | hx
      · exact ⟨hr1, mun_sub_l hs⟩
      · rcases List.mem_cons.1 hx with rfl | hx
        · exact ⟨hr2, mun_sub_r hdj hs⟩
        · exact hm x (by simp [hx])
    · rcases List.mem_cons.1 hx with rfl | hx
      · exact hdj
      · intro i
        rcases hsplit x hx i with a | a
        · exact .inl a.1
        · exact .inr a
    · intro i
      rcases hsplit x hx i with a | a
      · exact .inl a.2
      · exact .inr a
theorem own_ex {σ : World} {ι : Type} {r : ι → Res} {F : List Res} {w : World} (h : Own σ ((fun m => ∃ i, r i m) :: F) w) : ∃ i, Own σ (r i :: F) w := by
  obtain ⟨h1, h2, h3, l, hl, hm, hd⟩ := h
  match l, hl with
  | p :: l, hl =>
    simp only [List.map_cons, List.cons.injEq] at hl
    obtain ⟨e1, e2⟩ := hl
    obtain ⟨hp, hs⟩ := hm p (by simp)
    rw [e1] at hp
    obtain ⟨i, hi⟩ := hp
    refine ⟨i, h1, h2, h3, (r i, p.2) :: l, by simp [e2], fun x hx => ?_, ?_⟩
    · rcases List.mem_cons.1 hx with rfl | hx
      · exact ⟨hi, hs⟩
      · exact hm x (by simp [hx])
    · rw [List.pairwise_cons] at hd ⊢; exact hd
theorem own_and {σ : World} {φ : Prop} {r : Res} {F : List Res} {w : World} (h : Own σ ((fun m => φ ∧ r m) :: F) w) : φ ∧ Own σ (r :: F) w := by
  obtain ⟨m, hm, _⟩ := own_head h
  exact ⟨hm.1, h.imp fun m hm => hm.2⟩
/-- A is what one of the B is. -/
def Opens (σ : World) (A : List Res) (ι : Type) (B : ι → List Res) : Prop := ∀ F w, Own σ (A ++ F) w → ∃ i, Own σ (B i ++ F) w
def Closes (σ : World) (B A : List Res) : Prop := ∀ F w, Own σ (B ++ F) w → Own σ (A ++ F) w
theorem Closes.refl {σ : World} (A : List Res) : Closes σ A A := fun F w h => h
theorem Closes.app {σ : World} {B1 A1 B2 A2 : List Res} (h1 : Closes σ B1 A1) (h2 : Closes σ B2 A2) : Closes σ (B1 ++ B2) (A1 ++ A2) := fun F w h => by
  rw [List.append_assoc] at h ⊢
  have h3 := h1 _ w h
  have h4 : Own σ (B2 ++ (A1 ++ F)) w := h3.perm (by
    rw [← List.append_assoc, ← List.append_assoc]; exact List.perm_append_comm.append_right F)
  have h5 := h2 _ w h4
  exact h5.perm (by rw [← List.append_assoc, ← List.append_assoc]; exact List.perm_append_comm.append_right F)
theorem Opens.app {σ : World} {A1 A2 : List Res} {ι κ : Type} {B1 : ι → List Res} {B2 : κ → List Res} (h1 : Opens σ A1 ι B1) (h2 : Opens σ A2 κ B2) : Opens σ (A1 ++ A2) (ι × κ) (fun i => B1 i.1 ++ B2 i.2) := fun F w h => by
  rw [List.append_assoc] at h
  obtain ⟨i, h3⟩ := h1 _ w h
  have h4 : Own σ (A2 ++ (B1 i ++ F)) w := h3.perm (by
    rw [← List.append_assoc, ← List.append_assoc]; exact List.perm_append_comm.append_right F)
  obtain ⟨j, h5⟩ := h2 _ w h4
  refine ⟨(i, j), ?_⟩
  show Own σ (B1 i ++ B2 j ++ F) w
  rw [List.append_assoc]
  exact h5.perm (by rw [← List.append_assoc, ← List.append_assoc]; exact List.perm_append_comm.append_right F)
theorem Opens.nil (σ : World) : Opens σ [] Unit (fun _ => []) := fun F w h => ⟨(), h⟩
theorem fn_oc {P : Program} {σ : World} {F : List Res} {f : Nat} {args : List Value} {ι : Type} {R' : RL} {A : List Res} {B : ι → List Res} {S' : Value → RL → Prop} {R : ι → RL} {S : ι → Value → RL → Prop} (ho : Opens σ A ι B) (hA : rs R' = A) (hB : ∀ i, rs (R i) = B i) (h : ∀ i, FnT P σ F f args (R i) (S i))
    (hc : ∀ i u ρ, S i u ρ → ∃ ρ', S' u ρ' ∧ Closes σ (rs ρ) (rs ρ')) : FnT P σ F f args R' S' := fun w hw => by
  subst hA
  obtain ⟨i, h1⟩ := ho F w hw
  rw [← hB i] at h1
  exact (h i w h1).mono fun ex w' ⟨v, ρ, e1, e2, e3⟩ => by
    obtain ⟨ρ', e4, e5⟩ := hc i v ρ e2
    exact ⟨v, ρ', e1, e4, e5 F w' e3⟩
section
variable {P : Program} {σ : World} {n : Nat} {F : List Res} {e : Env} {R B0 : RL} {Q : Exit → Act → World → Prop}
theorem w_opn {c : Code} {ι : Type} (lab : Nat) {r : Res} {B : ι → RL} (ho : Opens σ [r] ι (fun i => rs (B i))) (ht : takeL R [lab] = some ([(lab, r)], B0)) (k : ∀ i, W P σ n c Q e (B i ++ B0) F) : W P σ n c Q e R F := fun a w hr hw => by
  have h1 : Own σ ([r] ++ (rs B0 ++ F)) w := by simpa [rs] using hw.take ht
  obtain ⟨i, h2⟩ := ho _ w h1
  refine k i a w hr ?_
  have : rs (B i ++ B0) = rs (B i) ++ rs B0 := by unfold rs; rw [List.map_append]
  rw [this, List.append_assoc]; exact h2
theorem w_cls {c : Code} (L : List Nat) {A C : RL} (hc : Closes σ (rs A) (rs C)) (ht : takeL R L = some (A, B0)) (k : W P σ n c Q e (C ++ B0) F) : W P σ n c Q e R F := fun a w hr hw => by
  have h1 := hw.take ht
  have h2 := hc _ w h1
  refine k a w hr ?_
  have : rs (C ++ B0) = rs C ++ rs B0 := by unfold rs; rw [List.map_append]
  rw [this, List.append_assoc]; exact h2
end
end Go.SL
