/- Loops that keep what they do not change. Conditions: none. -/
import Derived.Test.YtecmigildpkigaaGreatSl8
namespace Go.SL
open Go.RowKit
set_option linter.unusedVariables false
set_option linter.unusedSimpArgs false
theorem lk_appendK {e2 : Env} {i : Nat} {v : Value} : ∀ {e1 : Env}, lk (e1 ++ e2) i = some v → lk e1 i = some v ∨ lk e2 i = some v
  | [], h => .inr h
  | (j, u) :: e1, h => by
    simp only [List.cons_append, lk] at h ⊢
    cases hb : Nat.beq j i with
    | true => rw [hb] at h; exact .inl h
    | false => rw [hb] at h; exact lk_appendK h
theorem Sube.append {e e1 e2 : Env} (h1 : Sube e e1) (h2 : Sube e e2) : Sube e (e1 ++ e2) := fun i v h => (lk_appendK h).elim (h1 i v) (h2 i v)
theorem fn_mono {P : Program} {σ : World} {F : List Res} {f : Nat} {args : List Value} {R : RL} {S S' : Value → RL → Prop} (h : FnT P σ F f args R S) (hS : ∀ u ρ w, S u ρ → Own σ (rs ρ ++ F) w → ∃ ρ', S' u ρ' ∧ Own σ (rs ρ' ++ F) w) : FnT P σ F f args R S' :=
  fun w ho => Calls.mono (h w ho) fun ex w' ⟨v, ρ, h1, h2, h3⟩ => let ⟨ρ', h4, h5⟩ := hS v ρ w' h2 h3; ⟨v, ρ', h1, h4, h5⟩
theorem fn_lab {P : Program} {σ : World} {F : List Res} {f : Nat} {args : List Value} {R R' : RL} {S S' : Value → RL → Prop} (h : FnT P σ F f args R S) (hR : rs R' = rs R) (hS : ∀ u ρ, S u ρ → ∃ ρ', S' u ρ' ∧ rs ρ' = rs ρ) : FnT P σ F f args R' S' :=
  fun w ho => Calls.mono (h w (hR ▸ ho)) fun ex w' ⟨v, ρ, h1, h2, h3⟩ => let ⟨ρ', h4, h5⟩ := hS v ρ h2; ⟨v, ρ', h1, h4, h5 ▸ h3⟩
theorem fn_imp {P : Program} {σ : World} {F : List Res} {f : Nat} {args : List Value} {R : RL} {S S' : Value → RL → Prop} (h : FnT P σ F f args R S) (hS : ∀ u ρ, S u ρ → S' u ρ) : FnT P σ F f args R S' := fn_mono h fun u ρ w h1 h2 => ⟨ρ, hS u ρ h1, h2⟩
section
variable {P : Program} {σ : World} {n : Nat} {F : List Res} {e : Env} {R A B : RL} {Q : Exit → Act → World → Prop}
theorem wl_norm {ops : Array Oper} {K : Act → World → Prop} {rest : List Oper} {e' : Env} {R' : RL} (hs : Sube e e') (hR : R = R') (k : WL P σ n ops Q K rest e' R' F) : WL P σ n ops Q K rest e R F := by subst hR; exact wl_sub hs k
theorem w_norm2 {c : Code} {e' : Env} {R' : RL} (he : e = e') (hR : R = R') (k : W P σ n c Q e' R' F) : W P σ n c Q e R F := by subst he; subst hR; exact k
theorem w_norm {c : Code} {e' : Env} {R' : RL} (hs : Sube e e') (hR : R = R') (k : W P σ n c Q e' R' F) : W P σ n c Q e R F := by subst hR; exact w_sub hs k
theorem w_cutL {c : Code} {K : Act → World → Prop} {A0 B0 : RL} (E : Env) (L L' : List Nat) (ht : takeL R L' = some (A0, B0)) (h : ∀ K', St σ n K' (E ++ keepE e L) A0 F → W P σ n c (Exit.then K' Q) e R F) (k : St σ n K (E ++ keepE e L) A0 F) : W P σ n c (Exit.then K Q) e R F := h K k
theorem wl_unwantedU {ops : Array Oper} {K : Act → World → Prop} {rest : List Oper} {o : Oper} {d j t : Nat} {o' : Oper} {b : Bool} (hg : o.guard = some (j, b)) (hj : ops[j]? = some o') (hjd : o'.dst = some t) (hjn : Nat.blt t n = true) (hjv : lk e t = some undef)
    (hd : o.dst = some d) (hn : Nat.blt d n = true) (k : WL P σ n ops Q K rest ((d, undef) :: e) R F) : WL P σ n ops Q K (o :: rest) e R F := by
  intro a w hr ho
  simp only [wlk]
  have hy : yielded ops a.tmps j = none := by
    have h1 := hr.get t _ hjv
    have hlt : t < a.tmps.size := by rw [hr.size]; simpa [Nat.blt_eq] using hjn
    unfold yielded
    simp only [hj, Option.bind_some, hjd]
    rw [Array.getD_eq_getD_getElem?, Array.getElem?_eq_getElem hlt] at h1
    simp at h1
    rw [Array.getElem?_eq_getElem hlt, h1]
    rfl
  rw [if_neg (by rw [Region.wanted, hg]; simp only [hy]; simp)]
  rw [hd]
  exact k _ w (hr.put hn undef) ho
/-- A loop: what changes is told by a ghost, the slots of K1 and the blocks of K2 stay. -/
theorem w_loopK {c : Code} {X : Type} (φ : X → Prop) (E : X → Env) (RR : X → RL) (μ : X → Nat) (x₀ : X) (K1 : Env) (K2 : RL) (h₀ : φ x₀) (he : Sube e (E x₀)) (hk : Sube e K1) (L : List Nat) (ht : takeL R L = some (A, B)) (hA : rs A = rs (RR x₀ ++ K2))
    (round : ∀ x, φ x → W P σ n c (Exit.then (fun a w => ∃ x', φ x' ∧ μ x' < μ x ∧ Rel n (E x' ++ K1) a ∧ Own σ (rs (RR x' ++ K2) ++ F) w) Q) (E x ++ K1) (RR x ++ K2) F) : W P σ n (.loop c) Q e R F :=
  w_loop φ (fun x => E x ++ K1) (fun x => RR x ++ K2) μ x₀ h₀ (he.append hk) ⟨L, A, B, ht, hA⟩ round
theorem st_roundK {X : Type} {φ : X → Prop} {E : X → Env} {K1 : Env} {RR : X → RL} {K2 : RL} {μ : X → Nat} {x : X} (x' : X) (L : List Nat) (h1 : φ x') (h2 : μ x' < μ x) (h3 : Sube e (E x')) (hk : Sube e K1) (h4 : takeL R L = some (A, B)) (h5 : rs A = rs (RR x' ++ K2)) :
    St σ n (Exit.then (fun a w => ∃ x', φ x' ∧ μ x' < μ x ∧ Rel n (E x' ++ K1) a ∧ Own σ (rs (RR x' ++ K2) ++ F) w) Q .normal) e R F :=
  fun a w hr ho => ⟨x', h1, h2, hr.sub (h3.append hk), h5 ▸ ho.keep h4⟩
end
end Go.SL
