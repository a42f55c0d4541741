/- Results that may be an argument's own slice. Conditions: none. -/
import Derived.Test.YtecmigildpkigaaGreatSlG
import Derived.Test.YtecmigildpkigaaGreatSlH
namespace Go.SL
open Go Go.RowKit
theorem Own.imp {σ : World} {r r' : Res} {F : List Res} {w : World} (h : Own σ (r :: F) w) (hi : ∀ m, r m → r' m) : Own σ (r' :: F) w := by
  obtain ⟨h1, h2, h3, l, hl, hm, hd⟩ := h
  cases l with
  | nil => simp at hl
  | cons p l =>
    obtain ⟨q, m⟩ := p
    simp only [List.map_cons, List.cons.injEq] at hl
    obtain ⟨rfl, rfl⟩ := hl
    refine ⟨h1, h2, h3, (r', m) :: l, by simp, fun p hp => ?_, ?_⟩
    · rcases List.mem_cons.1 hp with rfl | hp
      · have := hm (q, m) (by simp); exact ⟨hi _ this.1, this.2⟩
      · exact hm p (by simp [hp])
    · rw [List.pairwise_cons] at hd ⊢
      exact hd
/-- A slice of one's own, or one that is told otherwise. -/
def slE {α : Type} (E : Nat) (enc : α → List Value) (k : Nat) (v : Value) (l : List α) (al : Prop) : Res := fun m => slW E enc k v l m ∨ (m = (fun _ => none) ∧ al)
section
variable {P : Program} {σ : World} {n : Nat} {F : List Res} {e : Env} {R A B : RL} {Q : Exit → Act → World → Prop}
theorem Sl.labE {α : Type} {enc : α → List Value} {E k : Nat} {v : Value} {l : List α} {al : Prop} (lab : Nat) (h : getL R lab = some (slE E enc k v l al)) (hl : l.length ≤ maxLen) (ha : al → Sl σ (rs R ++ F) enc k v l) : Sl σ (rs R ++ F) enc k v l := by
  refine ⟨fun w hw => ?_, hl⟩
  obtain ⟨m, h1, h2⟩ := hw.mem_of (List.mem_append.2 (.inl (mem_getL h)))
  rcases h1 with h1 | ⟨_, h1⟩
  · exact says_slO m w h1 h2
  · exact (ha h1).ent w hw
theorem w_wk {c : Code} (lab : Nat) {r : Res} (r' : Res) (ht : takeL R [lab] = some ([(lab, r)], B)) (hi : ∀ m, r m → r' m) (k : W P σ n c Q e ((lab, r') :: B) F) : W P σ n c Q e R F := fun a w hr ho => by
  have h1 := ho.take ht
  exact k a w hr (Own.imp (F := rs B ++ F) (by simpa [rs] using h1) hi)
theorem slE_al {α : Type} {enc : α → List Value} {E k : Nat} {v : Value} {l : List α} {al : Prop} (h : al) : slE E enc k v l al (fun _ => none) := .inr ⟨rfl, h⟩
end
end Go.SL
