/- A family of owned lists as one resource. Conditions: none. -/
import Derived.Test.YtecmigildpkigaaGreatSlM
namespace Go.SL
open Go Go.RowKit
set_option linter.unusedSimpArgs false
set_option linter.unusedVariables false
def uniM (m1 m2 : Mem) : Mem := fun i => match m1 i with
  | some o => some o
  | none => m2 i
/-- Two resources as one. -/
def sepR (r1 r2 : Res) : Res := fun m => ∃ m1 m2, r1 m1 ∧ r2 m2 ∧ MDisj m1 m2 ∧ m = uniM m1 m2
def empR : Res := fun m => m = fun _ => none
theorem uni_l {m1 m2 : Mem} {w : World} (h : MSub (uniM m1 m2) w) : MSub m1 w := fun i o hi => h i o (by unfold uniM; rw [hi])
theorem uni_r {m1 m2 : Mem} {w : World} (hd : MDisj m1 m2) (h : MSub (uniM m1 m2) w) : MSub m2 w := fun i o hi => h i o (by
  unfold uniM
  rcases hd i with h1 | h1
  · rw [h1]; exact hi
  · rw [h1] at hi; simp at hi)
theorem Own.merge {σ : World} {r1 r2 : Res} {F : List Res} {w : World} (h : Own σ (r1 :: r2 :: F) w) : Own σ (sepR r1 r2 :: F) w := by
  obtain ⟨h1, h2, h3, l, hl, hm, hd⟩ := h
  match l, hl with
  | p :: q :: l, hl =>
    simp only [List.map_cons, List.cons.injEq] at hl
    obtain ⟨rfl, rfl, hl2⟩ := hl
    obtain ⟨d1, d2⟩ := List.pairwise_cons.1 hd
    obtain ⟨d3, d4⟩ := List.pairwise_cons.1 d2
    obtain ⟨a1, a2⟩ := hm p (by simp)
    obtain ⟨b1, b2⟩ := hm q (by simp)
    refine ⟨h1, h2, h3, (sepR p.1 q.1, uniM p.2 q.2) :: l, by simp [hl2], fun x hx => ?_, List.pairwise_cons.2 ⟨fun x hx i => ?_, d4⟩⟩
    · rcases List.mem_cons.1 hx with rfl | hx
      · refine ⟨⟨p.2, q.2, a1, b1, d1 q (by simp), rfl⟩, fun i o hi => ?_⟩
        change uniM p.2 q.2 i = some o at hi
        unfold uniM at hi
        cases hp : p.2 i with
        | some o' => rw [hp] at hi; simp only [Option.some.injEq] at hi; subst hi; exact a2 i _ hp
        | none => rw [hp] at hi; exact b2 i o hi
      · exact hm x (by simp [hx])
    · rcases d1 x (by simp [hx]) i with e1 | e1
      · rcases d3 x hx i with e2 | e2
        · left; show uniM p.2 q.2 i = none; unfold uniM; rw [e1]; exact e2
        · exact .inr e2
      · exact .inr e1
section
variable {P : Program} {σ : World} {n : Nat} {F : List Res} {e : Env} {R A B : RL} {ops : Array Oper} {rest : List Oper} {Q : Exit → Act → World → Prop} {K : Act → World → Prop}
theorem wl_merge (l1 l2 : Nat) {r1 r2 : Res} (ht : takeL R [l1, l2] = some ([(l1, r1), (l2, r2)], B)) (k : WL P σ n ops Q K rest e ((l1, sepR r2 r1) :: B) F) : WL P σ n ops Q K rest e R F := fun a w hr ho => by
  have h1 : Own σ (r1 :: r2 :: (rs B ++ F)) w := by simpa [rs] using ho.take ht
  exact k a w hr ((h1.perm (List.Perm.swap r2 r1 _)).merge)
end
end Go.SL
