/- Strings as lists of bytes. Conditions: none. -/
import Derived.Test.YtecmigildpkigaaGreatSlJ
import Derived.Sort.Walk0
namespace Go.SL
open Go Go.RowKit
set_option linter.unusedVariables false
set_option linter.unusedSimpArgs false
def encT (s : List UInt8) : List Value := [.string (str s)]
theorem enc1T : Enc1 encT 1 := ⟨fun _ => rfl, fun a u h => by simp [encT] at h; subst h; rfl⟩
theorem str_toList (s : List UInt8) : (str s).toList = s := by rw [ByteArray.toList_eq]; simp [str]
theorem str_eq {s t : List UInt8} : (str s = str t) ↔ s = t := ⟨str_inj, fun h => by rw [h]⟩
theorem str_extract (s : List UInt8) (lo hi : Nat) : (str s).extract lo hi = str ((s.take hi).drop lo) := by
  apply ByteArray.ext
  simp only [str, ByteArray.data_extract]
  apply Array.toList_inj.1
  simp [List.extract_eq_take_drop, List.drop_take]
section
variable {P : Program} {σ : World} {n : Nat} {F : List Res} {e : Env} {R : RL} {dst : Option Tmp} {ty : TypeId} {pos : String} {after : Array Edge} {guard : Option (Nat × Bool)}
theorem op_lenBs {x : Operand} {s : List UInt8} {T : TypeId} (hx : ev e x = some (.string (str s))) (hu : P.underlying T = some .string) : OpT P σ n F ⟨dst, .call ⟨.builtin .len, #[x], #[T]⟩, ty, pos, after, guard⟩ e [] (Det (.int .i64 s.length)) := by
  have := op_lenS (P := P) (σ := σ) (n := n) (F := F) (dst := dst) (ty := ty) (pos := pos) (after := after) (guard := guard) hx hu
  rwa [str_size] at this
theorem op_idxBs {x y : Operand} {s : List UInt8} {T : TypeId} {i : Nat} {b : UInt8} (hx : ev e x = some (.string (str s))) (hy : ev e y = some (.int .i64 i)) (hu : P.underlying T = some .string) (hi : s[i]? = some b) : OpT P σ n F ⟨dst, .index T x y, ty, pos, after, guard⟩ e [] (Det (.int .u8 b.toNat)) := op_idxS hx hy hu (str_get hi)
theorem op_catBs {x y : Operand} {s t : List UInt8} {T t2 : TypeId} (hx : ev e x = some (.string (str s))) (hy : ev e y = some (.string (str t))) (hl : s.length + t.length ≤ 9223372036854775807) : OpT P σ n F ⟨dst, .binOp .add T x y t2, ty, pos, after, guard⟩ e [] (Det (.string (str (s ++ t)))) := by
  have := op_cat (P := P) (σ := σ) (n := n) (F := F) (dst := dst) (ty := ty) (pos := pos) (after := after) (guard := guard) (T := T) (t2 := t2) hx hy (by rw [str_size, str_size]; exact hl)
  rwa [str_append] at this
theorem op_eqBs {x y : Operand} {s t : List UInt8} {T t2 : TypeId} (hx : ev e x = some (.string (str s))) (hy : ev e y = some (.string (str t))) : OpT P σ n F ⟨dst, .binOp .eql T x y t2, ty, pos, after, guard⟩ e [] (Det (.bool (decide (s = t)))) := by
  have := op_eqStr (P := P) (σ := σ) (n := n) (F := F) (dst := dst) (ty := ty) (pos := pos) (after := after) (guard := guard) (T := T) (t2 := t2) hx hy
  rwa [decide_eq_decide.2 str_eq] at this
theorem op_neBs {x y : Operand} {s t : List UInt8} {T t2 : TypeId} (hx : ev e x = some (.string (str s))) (hy : ev e y = some (.string (str t))) : OpT P σ n F ⟨dst, .binOp .neq T x y t2, ty, pos, after, guard⟩ e [] (Det (.bool (decide (s ≠ t)))) := by
  have := op_neStr (P := P) (σ := σ) (n := n) (F := F) (dst := dst) (ty := ty) (pos := pos) (after := after) (guard := guard) (T := T) (t2 := t2) hx hy
  rwa [decide_eq_decide.2 (not_congr str_eq)] at this
theorem op_ltBs {x y : Operand} {s t : List UInt8} {T t2 : TypeId} (hx : ev e x = some (.string (str s))) (hy : ev e y = some (.string (str t))) : OpT P σ n F ⟨dst, .binOp .lss T x y t2, ty, pos, after, guard⟩ e [] (Det (.bool (decide (s < t)))) :=
  opt_run fun a w hr ho => by simp [execOp, hr.ev hx, hr.ev hy, eqGuard, Sem.run_bind, binOp, Op.stringOp, str_toList, Proofs.bytesLess_eq]
theorem op_geBs {x y : Operand} {s t : List UInt8} {T t2 : TypeId} (hx : ev e x = some (.string (str s))) (hy : ev e y = some (.string (str t))) : OpT P σ n F ⟨dst, .binOp .geq T x y t2, ty, pos, after, guard⟩ e [] (Det (.bool (decide (t ≤ s)))) :=
  opt_run fun a w hr ho => by
    have : (!decide (s < t)) = decide (t ≤ s) := by rw [← decide_not, decide_eq_decide]; exact List.not_lt
    simp [execOp, hr.ev hx, hr.ev hy, eqGuard, Sem.run_bind, binOp, Op.stringOp, str_toList, Proofs.bytesLess_eq, this]
theorem bs_le (s t : List UInt8) : (decide (s < t) || s == t) = decide (s ≤ t) := by
  rw [Bool.eq_iff_iff]
  simp only [Bool.or_eq_true, decide_eq_true_eq, beq_iff_eq]
  constructor
  · rintro (h | rfl)
    · exact List.not_lt.1 (List.lt_asymm h)
    · exact List.not_lt.1 (List.lt_irrefl _)
  · intro h
    by_cases h1 : s < t
    · exact .inl h1
    · exact .inr (List.le_antisymm h (List.not_lt.1 h1))
theorem op_leBs {x y : Operand} {s t : List UInt8} {T t2 : TypeId} (hx : ev e x = some (.string (str s))) (hy : ev e y = some (.string (str t))) : OpT P σ n F ⟨dst, .binOp .leq T x y t2, ty, pos, after, guard⟩ e [] (Det (.bool (decide (s ≤ t)))) :=
  opt_run fun a w hr ho => by
    have h1 : (binOp .leq T (.string (str s)) (.string (str t))).run P w = .ok (.bool (Op.bytesLess (str s).toList (str t).toList || (str s).toList == (str t).toList)) w := by simp [binOp, Op.stringOp]
    rw [str_toList, str_toList, Proofs.bytesLess_eq, bs_le] at h1
    simp [execOp, hr.ev hx, hr.ev hy, eqGuard, Sem.run_bind, h1]
theorem op_gtBs {x y : Operand} {s t : List UInt8} {T t2 : TypeId} (hx : ev e x = some (.string (str s))) (hy : ev e y = some (.string (str t))) : OpT P σ n F ⟨dst, .binOp .gtr T x y t2, ty, pos, after, guard⟩ e [] (Det (.bool (decide (t < s)))) :=
  opt_run fun a w hr ho => by
    have h1 : (binOp .gtr T (.string (str s)) (.string (str t))).run P w = .ok (.bool !(Op.bytesLess (str s).toList (str t).toList || (str s).toList == (str t).toList)) w := by simp [binOp, Op.stringOp]
    rw [str_toList, str_toList, Proofs.bytesLess_eq, bs_le] at h1
    have h2 : (!decide (s ≤ t)) = decide (t < s) := by rw [← decide_not, decide_eq_decide]; exact List.not_le
    rw [h2] at h1
    simp [execOp, hr.ev hx, hr.ev hy, eqGuard, Sem.run_bind, h1]
theorem op_sliceBs {T lo hi : Nat} {x y z : Operand} {s : List UInt8} (hx : ev e x = some (.string (str s))) (hy : ev e y = some (.int .i64 lo)) (hz : ev e z = some (.int .i64 hi)) (hu : P.underlying T = some .string) (h1 : lo ≤ hi) (h2 : hi ≤ s.length) :
    OpT P σ n F ⟨dst, .slice T x (some y) (some z) none, ty, pos, after, guard⟩ e [] (Det (.string (str ((s.take hi).drop lo)))) := by
  have := op_sliceS (P := P) (σ := σ) (n := n) (F := F) (dst := dst) (ty := ty) (pos := pos) (after := after) (guard := guard) hx hy hz hu h1 (by rw [str_size]; exact h2)
  rwa [str_extract] at this
theorem op_sliceLBs {T lo : Nat} {x y : Operand} {s : List UInt8} (hx : ev e x = some (.string (str s))) (hy : ev e y = some (.int .i64 lo)) (hu : P.underlying T = some .string) (h1 : lo ≤ s.length) :
    OpT P σ n F ⟨dst, .slice T x (some y) none none, ty, pos, after, guard⟩ e [] (Det (.string (str (s.drop lo)))) := by
  have := op_sliceSL (P := P) (σ := σ) (n := n) (F := F) (dst := dst) (ty := ty) (pos := pos) (after := after) (guard := guard) hx hy hu (by rw [str_size]; exact h1)
  rwa [str_extract, str_size, List.take_of_length_le (Nat.le_refl _)] at this
theorem op_sliceRBs {T hi : Nat} {x z : Operand} {s : List UInt8} (hx : ev e x = some (.string (str s))) (hz : ev e z = some (.int .i64 hi)) (hu : P.underlying T = some .string) (h2 : hi ≤ s.length) :
    OpT P σ n F ⟨dst, .slice T x none (some z) none, ty, pos, after, guard⟩ e [] (Det (.string (str (s.take hi)))) := by
  have := op_sliceSR (P := P) (σ := σ) (n := n) (F := F) (dst := dst) (ty := ty) (pos := pos) (after := after) (guard := guard) hx hz hu (by rw [str_size]; exact h2)
  rwa [str_extract, List.drop_zero] at this
end
end Go.SL
