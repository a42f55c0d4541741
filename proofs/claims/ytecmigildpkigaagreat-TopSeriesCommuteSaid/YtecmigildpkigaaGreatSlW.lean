/- Two bytes joined to a number. Conditions: none. -/
import Derived.Test.YtecmigildpkigaaGreatSlV
namespace Go.SL
open Go Go.RowKit
set_option linter.unusedVariables false
set_option linter.unusedSimpArgs false
section
variable {P : Program} {σ : World} {n : Nat} {F : List Res} {e : Env} {R : RL} {dst : Option Tmp} {ty : TypeId} {pos : String} {after : Array Edge} {guard : Option (Nat × Bool)}
theorem op_shl8 {t t2 : TypeId} {x y : Operand} {k' : IntKind} {a : Nat} (hx : ev e x = some (.int .i64 a)) (hy : ev e y = some (.int k' 8)) (ha : a < 256) :
    OpT P σ n F ⟨dst, .binOp .shl t x y t2, ty, pos, after, guard⟩ e [] (Det (.int .i64 ((a * 256 : Nat) : Int))) :=
  opt_run fun A w hr _ => by
    have h : IntKind.i64.wrap ((a : Int) * 2 ^ min (8 : Int).toNat IntKind.i64.bits) = ((a * 256 : Nat) : Int) := by
      have : ((a : Int) * 2 ^ min (8 : Int).toNat IntKind.i64.bits) = ((a * 256 : Nat) : Int) := by
        rw [show (2 : Int) ^ min (8 : Int).toNat IntKind.i64.bits = 256 from rfl]; omega
      rw [this]; exact wrap_i64 (by omega)
    simp [execOp, hr.ev hx, hr.ev hy, eqGuard, Sem.run_bind, binOp, shift_shl_any .i64 k' (a : Int) 8 (by decide)]
    exact h
theorem or8 {a b : Nat} (hb : b < 256) : a * 256 ||| b = a * 256 + b := by
  have := Nat.shiftLeft_add_eq_or_of_lt (b := b) (i := 8) (by simpa using hb) a
  rw [Nat.shiftLeft_eq] at this
  exact this.symm
theorem op_or8 {t t2 : TypeId} {x y : Operand} {a b : Nat} (hx : ev e x = some (.int .i64 ((a * 256 : Nat) : Int))) (hy : ev e y = some (.int .i64 b)) (ha : a < 256) (hb : b < 256) :
    OpT P σ n F ⟨dst, .binOp .or t x y t2, ty, pos, after, guard⟩ e [] (Det (.int .i64 ((a * 256 + b : Nat) : Int))) :=
  op_int hx hy fun w => by
    have h1 : (BitVec.ofInt IntKind.i64.bits ((a * 256 : Nat) : Int) ||| BitVec.ofInt IntKind.i64.bits (b : Int)).toNat = a * 256 + b := by
      rw [BitVec.toNat_or, BitVec.ofInt_natCast, BitVec.ofInt_natCast, BitVec.toNat_ofNat, BitVec.toNat_ofNat]
      show (a * 256) % 2 ^ 64 ||| b % 2 ^ 64 = _
      rw [Nat.mod_eq_of_lt (by omega), Nat.mod_eq_of_lt (by omega), or8 hb]
    simp only [binOp, Op.intBits]
    rw [h1, wrap_i64 (by omega)]
    rfl
theorem op_sliceRk {α : Type} {enc : α → List Value} {T E k hi : Nat} {x z : Operand} {a : Option Addr} {m c : Nat} {kk : IntKind} {l : List α} (hx : ev e x = some (.slice a m c)) (hz : ev e z = some (.int kk hi)) (hT : sliceB P T E k = true)
    (h : Sl σ F enc k (.slice a m c) l) (h2 : hi ≤ l.length) : OpT P σ n F ⟨dst, .slice T x none (some z) none, ty, pos, after, guard⟩ e [] (Det (.slice (SL.sub a c 0 k) (hi - 0) (c - 0))) :=
  opt_run fun A w hr ho => by
    obtain ⟨i, hu, hi', hsz⟩ := sliceB_spec hT
    obtain ⟨hm, hn, hc⟩ := h.shape w ho
    have h3 : hi ≤ c := by omega
    have hs2 : (sizeOf E).run P w = .ok k w := by simp [sizeOf, typeInfo, hi', hsz]
    simp [execOp, hr.ev hx, hr.ev hz, Instr.sliceAt, Instr.slice, run_underlying hu, Sem.run_bind, Instr.sliceBounds, Instr.sliceBound, asIntOf, h3, hs2, SL.sub]
end
end Go.SL
