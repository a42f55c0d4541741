/- Loops whose ghosts are found by unification. Conditions: none. -/
import Derived.Test.YtkknlfhncheflaaSlA
namespace Go.SL
open Go.RowKit
set_option linter.unusedVariables false
set_option linter.unusedSimpArgs false
section
variable {P : Program} {σ : World} {n : Nat} {F : List Res} {e : Env} {R A B : RL} {Q : Exit → Act → World → Prop}
theorem w_loopQ {c : Code} {X : Type} (φ : X → Prop) (E : X → Env) (RR : X → RL) (μ : X → Nat) (x₀ : X) (K1 : Env) (K2 : RL) (L : List Nat) (ht : takeL R L = some (A, B)) (hA : rs A = rs (RR x₀ ++ K2)) (he : Sube e (E x₀)) (hk : Sube e K1) (h₀ : φ x₀)
    (round : ∀ x, φ x → W P σ n c (Exit.then (fun a w => ∃ x', φ x' ∧ μ x' < μ x ∧ Rel n (E x' ++ K1) a ∧ Own σ (rs (RR x' ++ K2) ++ F) w) Q) (E x ++ K1) (RR x ++ K2) F) : W P σ n (.loop c) Q e R F :=
  w_loopK φ E RR μ x₀ K1 K2 h₀ he hk L ht hA round
theorem st_roundQ {X : Type} {φ : X → Prop} {E : X → Env} {K1 : Env} {RR : X → RL} {K2 : RL} {μ : X → Nat} {x : X} (x' : X) (L : List Nat) (h4 : takeL R L = some (A, B)) (h5 : rs A = rs (RR x' ++ K2)) (h3 : Sube e (E x')) (hk : Sube e K1) (h1 : φ x') (h2 : μ x' < μ x) :
    St σ n (Exit.then (fun a w => ∃ x', φ x' ∧ μ x' < μ x ∧ Rel n (E x' ++ K1) a ∧ Own σ (rs (RR x' ++ K2) ++ F) w) Q .normal) e R F := st_roundK x' L h1 h2 h3 hk h4 h5
variable {dst : Option Tmp} {ty : TypeId} {pos : String} {after : Array Edge} {guard : Option (Nat × Bool)}
/-- The address of an element, without a look at memory. -/
theorem op_idxV {T E k : Nat} {x y : Operand} {a : Option Addr} {m c i : Nat} (hx : ev e x = some (.slice a m c)) (hy : ev e y = some (.int .i64 i)) (ht : sliceB P T E k = true) (ha : a = none → m = 0) (hi : i < m) :
    OpT P σ n F ⟨dst, .indexAddr T x y, ty, pos, after, guard⟩ e [] (Det (.pointer (some (idxA (.slice a m c) i k)))) :=
  opt_run fun A w hr ho => by
    obtain ⟨inf, hu, hinf, hsz⟩ := sliceB_spec ht
    cases a with
    | none => have := ha rfl; omega
    | some ad =>
      have hs2 : (sizeOf E).run P w = .ok k w := by simp [sizeOf, typeInfo, hinf, hsz]
      simp [execOp, hr.ev hx, hr.ev hy, Instr.indexAt, asIntOf, Sem.run_bind, run_underlying hu, hi, hs2, idxA]
theorem op_idxVZ {T E k : Nat} {x y : Operand} {a : Option Addr} {m c : Nat} {i : Int} (hx : ev e x = some (.slice a m c)) (hy : ev e y = some (.int .i64 i)) (ht : sliceB P T E k = true) (ha : a = none → m = 0) (h0 : 0 ≤ i) (hi : i < m) :
    OpT P σ n F ⟨dst, .indexAddr T x y, ty, pos, after, guard⟩ e [] (Det (.pointer (some (idxA (.slice a m c) i.toNat k)))) := by
  obtain ⟨j, rfl⟩ := Int.eq_ofNat_of_zero_le h0
  exact op_idxV hx hy ht ha (by omega)
theorem op_not_t {t : TypeId} {x : Operand} (hx : ev e x = some (.bool true)) : OpT P σ n F ⟨dst, .unOp .not t x, ty, pos, after, guard⟩ e [] (Det (.bool false)) := op_not hx
theorem op_not_f {t : TypeId} {x : Operand} (hx : ev e x = some (.bool false)) : OpT P σ n F ⟨dst, .unOp .not t x, ty, pos, after, guard⟩ e [] (Det (.bool true)) := op_not hx
theorem op_val {o : Oper} {R : RL} {v v' : Value} (hv : v = v') (h : OpT P σ n F o e R (Det v)) : OpT P σ n F o e R (Det v') := hv ▸ h
end
end Go.SL
