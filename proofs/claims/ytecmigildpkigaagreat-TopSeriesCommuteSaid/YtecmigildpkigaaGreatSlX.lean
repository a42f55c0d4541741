/- Numbers of 64 bits that are put together from bytes. Conditions: none. -/
import Derived.Test.YtecmigildpkigaaGreatSlW
import Derived.Test.YtecmigildpkigaaGreatSlC
namespace Go.SL
open Go Go.RowKit
set_option linter.unusedVariables false
set_option linter.unusedSimpArgs false
section
variable {P : Program} {σ : World} {n : Nat} {F : List Res} {e : Env} {R : RL} {dst : Option Tmp} {ty : TypeId} {pos : String} {after : Array Edge} {guard : Option (Nat × Bool)}
theorem op_shlU8 {t t2 : TypeId} {x y : Operand} {k' : IntKind} {a : Nat} (hx : ev e x = some (.int .u64 a)) (hy : ev e y = some (.int k' 8)) (ha : a < 72057594037927936) :
    OpT P σ n F ⟨dst, .binOp .shl t x y t2, ty, pos, after, guard⟩ e [] (Det (.int .u64 ((a * 256 : Nat) : Int))) :=
  opt_run fun A w hr _ => by
    have h : IntKind.u64.wrap ((a : Int) * 2 ^ min (8 : Int).toNat IntKind.u64.bits) = ((a * 256 : Nat) : Int) := by
      have : ((a : Int) * 2 ^ min (8 : Int).toNat IntKind.u64.bits) = ((a * 256 : Nat) : Int) := by
        rw [show (2 : Int) ^ min (8 : Int).toNat IntKind.u64.bits = 256 from rfl]; omega
      rw [this]; exact wrap_u64 (by omega)
    simp [execOp, hr.ev hx, hr.ev hy, eqGuard, Sem.run_bind, binOp, shift_shl_any .u64 k' (a : Int) 8 (by decide)]
    exact h
theorem op_orU8 {t t2 : TypeId} {x y : Operand} {a b : Nat} (hx : ev e x = some (.int .u64 ((a * 256 : Nat) : Int))) (hy : ev e y = some (.int .u64 b)) (ha : a < 72057594037927936) (hb : b < 256) :
    OpT P σ n F ⟨dst, .binOp .or t x y t2, ty, pos, after, guard⟩ e [] (Det (.int .u64 ((a * 256 + b : Nat) : Int))) :=
  op_int hx hy fun w => by
    have h1 : (BitVec.ofInt IntKind.u64.bits ((a * 256 : Nat) : Int) ||| BitVec.ofInt IntKind.u64.bits (b : Int)).toNat = a * 256 + b := by
      rw [BitVec.toNat_or, BitVec.ofInt_natCast, BitVec.ofInt_natCast, BitVec.toNat_ofNat, BitVec.toNat_ofNat]
      show (a * 256) % 2 ^ 64 ||| b % 2 ^ 64 = _
      rw [Nat.mod_eq_of_lt (by omega), Nat.mod_eq_of_lt (by omega), or8 hb]
    simp only [binOp, Op.intBits]
    rw [h1, wrap_u64 (by omega)]
    rfl
/-- A byte, or its complement. -/
theorem op_xorF {t t2 : TypeId} {x y : Operand} (neg : Bool) {b : UInt8} (hx : ev e x = some (.int .u8 b.toNat)) (hy : ev e y = some (.int .u8 (if neg = true then 255 else 0))) :
    OpT P σ n F ⟨dst, .binOp .xor t x y t2, ty, pos, after, guard⟩ e [] (Det (.int .u8 ((if neg = true then 255 - b.toNat else b.toNat : Nat) : Int))) := by
  have hb := b.toNat_lt
  cases neg with
  | false => exact op_xor8 (a := (b.toNat : Int)) hx hy (by omega)
  | true =>
    replace hy : ev e y = some (.int .u8 255) := hy
    show OpT P σ n F ⟨dst, .binOp .xor t x y t2, ty, pos, after, guard⟩ e [] (Det (.int .u8 ((255 - b.toNat : Nat) : Int)))
    refine op_int hx hy fun w => ?_
    simp only [binOp, Op.intBits]
    have h1 : (BitVec.ofInt IntKind.u8.bits (b.toNat : Int) ^^^ BitVec.ofInt IntKind.u8.bits 255).toNat = 255 - b.toNat := by
      show (BitVec.ofInt 8 (b.toNat : Int) ^^^ BitVec.allOnes 8).toNat = _
      rw [BitVec.xor_allOnes, BitVec.toNat_not, BitVec.ofInt_natCast, BitVec.toNat_ofNat]
      show 2 ^ 8 - 1 - b.toNat % 2 ^ 8 = _
      rw [Nat.mod_eq_of_lt (by omega)]
    rw [h1]
    have h2 : IntKind.u8.wrap ((255 - b.toNat : Nat) : Int) = ((255 - b.toNat : Nat) : Int) := by
      simp [IntKind.bits, IntKind.wrap, IntKind.signed]; omega
    rw [h2]; rfl
theorem op_negU64 {t : TypeId} {x : Operand} {m : Nat} (hx : ev e x = some (.int .u64 m)) (h0 : 0 < m) (h1 : m ≤ 9223372036854775808) : OpT P σ n F ⟨dst, .unOp .neg t x, ty, pos, after, guard⟩ e [] (Det (.int .u64 (18446744073709551616 - (m : Int)))) := by
  have h := op_negK (P := P) (σ := σ) (n := n) (F := F) (dst := dst) (ty := ty) (pos := pos) (after := after) (guard := guard) (t := t) hx
  rwa [wrap_u64_neg (z := 0 - (m : Int)) (by omega), show (0 - (m : Int)) + 18446744073709551616 = 18446744073709551616 - (m : Int) by omega] at h
theorem op_convI64n {x : Operand} {m : Nat} {T T' : TypeId} (hx : ev e x = some (.int .u64 (18446744073709551616 - (m : Int)))) (hs : (P.underlying T).isSome = true) (hu : P.underlying T' = some (.int .i64)) (h0 : 0 < m) (h1 : m ≤ 9223372036854775808) : OpT P σ n F ⟨dst, .convert T T' x, ty, pos, after, guard⟩ e [] (Det (.int .i64 (-(m : Int)))) := by
  have h := op_conv (P := P) (σ := σ) (n := n) (F := F) (dst := dst) (ty := ty) (pos := pos) (after := after) (guard := guard) hx hs hu
  rwa [show IntKind.i64.wrap (18446744073709551616 - (m : Int)) = -(m : Int) by simp [IntKind.wrap, IntKind.bits, IntKind.signed]; omega] at h
theorem op_addU {t t2 : TypeId} {x y : Operand} {a b : Int} (hx : ev e x = some (.int .u64 a)) (hy : ev e y = some (.int .u64 b)) (h : 0 ≤ a + b ∧ a + b ≤ 18446744073709551615) : OpT P σ n F ⟨dst, .binOp .add t x y t2, ty, pos, after, guard⟩ e [] (Det (.int .u64 (a + b))) := by
  have h' := op_add (P := P) (σ := σ) (n := n) (F := F) (dst := dst) (ty := ty) (pos := pos) (after := after) (guard := guard) (t := t) (t2 := t2) hx hy
  rwa [wrap_u64 h] at h'
theorem op_subU {t t2 : TypeId} {x y : Operand} {a b : Int} (hx : ev e x = some (.int .u64 a)) (hy : ev e y = some (.int .u64 b)) (h : 0 ≤ a - b ∧ a - b ≤ 18446744073709551615) : OpT P σ n F ⟨dst, .binOp .sub t x y t2, ty, pos, after, guard⟩ e [] (Det (.int .u64 (a - b))) := by
  have h' := op_sub (P := P) (σ := σ) (n := n) (F := F) (dst := dst) (ty := ty) (pos := pos) (after := after) (guard := guard) (t := t) (t2 := t2) hx hy
  rwa [wrap_u64 h] at h'
theorem op_mulU {t t2 : TypeId} {x y : Operand} {a b : Int} (hx : ev e x = some (.int .u64 a)) (hy : ev e y = some (.int .u64 b)) (h : 0 ≤ a * b ∧ a * b ≤ 18446744073709551615) : OpT P σ n F ⟨dst, .binOp .mul t x y t2, ty, pos, after, guard⟩ e [] (Det (.int .u64 (a * b))) := by
  have h' := op_mul (P := P) (σ := σ) (n := n) (F := F) (dst := dst) (ty := ty) (pos := pos) (after := after) (guard := guard) (t := t) (t2 := t2) hx hy
  rwa [wrap_u64 h] at h'
/-- Two states of the slots that agree, slot by slot. -/
theorem agn {e1 e2 : Env} : ([] : List Nat).map (lk e1) = ([] : List Nat).map (lk e2) := rfl
theorem agc {e1 e2 : Env} {d : Nat} {L : List Nat} {v : Value} (h2 : lk e2 d = some v) (h1 : lk e1 d = some v) (t : L.map (lk e1) = L.map (lk e2)) : (d :: L).map (lk e1) = (d :: L).map (lk e2) := by
  rw [List.map_cons, List.map_cons, h1, h2, t]
end
end Go.SL
