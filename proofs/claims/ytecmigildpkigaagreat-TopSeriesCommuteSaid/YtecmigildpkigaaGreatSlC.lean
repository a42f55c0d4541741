/- Loops whose ghosts are found by unification. Conditions: none. -/
import Derived.Test.YtecmigildpkigaaGreatSlA
namespace Go.SL
open Go.RowKit
set_option linter.unusedVariables false
set_option linter.unusedSimpArgs false
theorem Sl.nil_of {σ : World} {F : List Res} {α : Type} {enc : α → List Value} {k m c : Nat} {l : List α} (h : Sl σ F enc k (.slice none m c) l) : Ent σ F (fun _ => l = []) := h.shape.mono fun _ h => h.2.1 rfl
section
variable {P : Program} {σ : World} {n : Nat} {F : List Res} {e : Env} {R A B : RL} {Q : Exit → Act → World → Prop}
theorem w_loopQ {c : Code} {X : Type} (φ : X → Prop) (E : X → Env) (RR : X → RL) (μ : X → Nat) (x₀ : X) (K1 : Env) (K2 : RL) (L : List Nat) (ht : takeL R L = some (A, B)) (hA : rs A = rs (RR x₀ ++ K2)) (he : Sube e (E x₀)) (hk : Sube e K1) (h₀ : φ x₀)
    (round : ∀ x, φ x → W P σ n c (Exit.then (fun a w => ∃ x', φ x' ∧ μ x' < μ x ∧ Rel n (E x' ++ K1) a ∧ Own σ (rs (RR x' ++ K2) ++ F) w) Q) (E x ++ K1) (RR x ++ K2) F) : W P σ n (.loop c) Q e R F :=
  w_loopK φ E RR μ x₀ K1 K2 h₀ he hk L ht hA round
theorem st_roundQ {X : Type} {φ : X → Prop} {E : X → Env} {K1 : Env} {RR : X → RL} {K2 : RL} {μ : X → Nat} {x : X} (x' : X) (L : List Nat) (h4 : takeL R L = some (A, B)) (h5 : rs A = rs (RR x' ++ K2)) (h3 : Sube e (E x')) (hk : Sube e K1) (h1 : φ x') (h2 : μ x' < μ x) :
    St σ n (Exit.then (fun a w => ∃ x', φ x' ∧ μ x' < μ x ∧ Rel n (E x' ++ K1) a ∧ Own σ (rs (RR x' ++ K2) ++ F) w) Q .normal) e R F := st_roundK x' L h1 h2 h3 hk h4 h5
variable {dst : Option Tmp} {ty : TypeId} {pos : String} {after : Array Edge} {guard : Option (Nat × Bool)}
/-- The address of an element, without a look at memory. -/
theorem op_idxV {T E k : Nat} {x y : Operand} {a : Option Addr} {m c i : Nat} (hx : ev e x = some (.slice a m c)) (hy : ev e y = some (.int .i64 i)) (ht : sliceB P T E k = true) (ha : a = none → m = 0) (hi : i < m) :
    OpT P σ n F ⟨dst, .indexAddr T x y, ty, pos, after, guard⟩ e [] (Det (.pointer (some (idxA (.slice a m c) i k)))) :=
  opt_run fun A w hr ho => by
    obtain ⟨inf, hu, hinf, hsz⟩ := sliceB_spec ht
    cases a with
    | none => have := ha rfl; omega
    | some ad =>
      have hs2 : (sizeOf E).run P w = .ok k w := by simp [sizeOf, typeInfo, hinf, hsz]
      simp [execOp, hr.ev hx, hr.ev hy, Instr.indexAt, asIntOf, Sem.run_bind, run_underlying hu, hi, hs2, idxA]
theorem op_idxVZ {T E k : Nat} {x y : Operand} {a : Option Addr} {m c : Nat} {i : Int} (hx : ev e x = some (.slice a m c)) (hy : ev e y = some (.int .i64 i)) (ht : sliceB P T E k = true) (ha : a = none → m = 0) (h0 : 0 ≤ i) (hi : i < m) :
    OpT P σ n F ⟨dst, .indexAddr T x y, ty, pos, after, guard⟩ e [] (Det (.pointer (some (idxA (.slice a m c) i.toNat k)))) := by
  obtain ⟨j, rfl⟩ := Int.eq_ofNat_of_zero_le h0
  exact op_idxV hx hy ht ha (by omega)
theorem wrap_u64 {z : Int} (h : 0 ≤ z ∧ z ≤ 18446744073709551615) : IntKind.u64.wrap z = z := by
  simp [IntKind.wrap, IntKind.bits, IntKind.signed]; omega
theorem wrap_u64_neg {z : Int} (h : -9223372036854775808 ≤ z ∧ z < 0) : IntKind.u64.wrap z = z + 18446744073709551616 := by
  simp [IntKind.wrap, IntKind.bits, IntKind.signed]; omega
theorem op_quoU {x y : Operand} {a b : Int} {t t2 : TypeId} (hx : ev e x = some (.int .u64 a)) (hy : ev e y = some (.int .u64 b)) (ha : 0 ≤ a) (hb : 0 < b) (hm : a ≤ 18446744073709551615) : OpT P σ n F ⟨dst, .binOp .quo t x y t2, ty, pos, after, guard⟩ e [] (Det (.int .u64 (a / b))) := by
  have := op_quo (P := P) (σ := σ) (n := n) (F := F) (dst := dst) (t := t) (t2 := t2) (ty := ty) (pos := pos) (after := after) (guard := guard) hx hy (by omega)
  rw [Int.tdiv_eq_ediv_of_nonneg ha, wrap_u64 ⟨by have := Int.ediv_nonneg ha (by omega : 0 ≤ b); omega, by have := Int.ediv_le_self b ha; omega⟩] at this
  exact this
theorem op_negK {t : TypeId} {x : Operand} {k : IntKind} {a : Int} (hx : ev e x = some (.int k a)) : OpT P σ n F ⟨dst, .unOp .neg t x, ty, pos, after, guard⟩ e [] (Det (.int k (k.wrap (0 - a)))) :=
  opt_run fun A w hr _ => by
    have h2 : (Op.unary .neg (.int k a)).run P w = .ok (.int k (k.wrap (0 - a))) w := by
      show (Op.intArith .sub k 0 a).run P w = _
      simp only [Op.intArith]; rfl
    simp [execOp, hr.ev hx, h2, Sem.run_bind]
theorem op_not_t {t : TypeId} {x : Operand} (hx : ev e x = some (.bool true)) : OpT P σ n F ⟨dst, .unOp .not t x, ty, pos, after, guard⟩ e [] (Det (.bool false)) := op_not hx
theorem op_not_f {t : TypeId} {x : Operand} (hx : ev e x = some (.bool false)) : OpT P σ n F ⟨dst, .unOp .not t x, ty, pos, after, guard⟩ e [] (Det (.bool true)) := op_not hx
theorem op_val {o : Oper} {R : RL} {v v' : Value} (hv : v = v') (h : OpT P σ n F o e R (Det v)) : OpT P σ n F o e R (Det v') := hv ▸ h
end
end Go.SL
