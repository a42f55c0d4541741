/- Shifts, bits, pointers compared with nil, bytes and strings. Conditions: none. -/
import Derived.Test.YtecmigildpkigaaGreatSl9
import Derived.Laws.BytesArg
import Derived.Laws.Shifts
namespace Go.SL
open Go.RowKit
set_option linter.unusedVariables false
set_option linter.unusedSimpArgs false
/-- A string of these bytes. -/
def str (l : List UInt8) : ByteArray := ⟨l.toArray⟩
theorem str_size (l : List UInt8) : (str l).size = l.length := by simp [str, ByteArray.size]
theorem str_inj {l m : List UInt8} (h : str l = str m) : l = m := by
  have := congrArg (fun s : ByteArray => s.data.toList) h
  simpa [str] using this
theorem str_append (l m : List UInt8) : str l ++ str m = str (l ++ m) := by
  apply ByteArray.ext; simp [str]
theorem str_self (s : ByteArray) : str s.data.toList = s := by apply ByteArray.ext; simp [str]
theorem str_get {l : List UInt8} {i : Nat} {b : UInt8} (h : l[i]? = some b) : (str l)[i]? = some b := by
  obtain ⟨hi, rfl⟩ := List.getElem?_eq_some_iff.1 h
  have : i < (str l).size := by rw [str_size]; exact hi
  rw [getElem?_pos (str l) i this]
  rfl
theorem flat_encU (l : List UInt8) : (l.map encU).flatten = (l.map fun x : UInt8 => (x.toNat : Int)).map (Value.int .u8) := by
  induction l with
  | nil => rfl
  | cons x l ih => simp only [List.map_cons, List.flatten_cons, encU, List.cons_append, List.nil_append]; exact congrArg _ ih
section
variable {P : Program} {σ : World} {n : Nat} {F : List Res} {e : Env} {R : RL} {dst : Option Tmp} {ty : TypeId} {pos : String} {after : Array Edge} {guard : Option (Nat × Bool)}
theorem op_shr {t t2 : TypeId} {x y : Operand} {k k' : IntKind} {a b : Int} (hx : ev e x = some (.int k a)) (hy : ev e y = some (.int k' b)) (h0 : 0 ≤ b) :
    OpT P σ n F ⟨dst, .binOp .shr t x y t2, ty, pos, after, guard⟩ e [] (Det (.int k (a / 2 ^ min b.toNat k.bits))) :=
  opt_run fun A w hr _ => by simp [execOp, hr.ev hx, hr.ev hy, eqGuard, Sem.run_bind, binOp, shift_shr_any k k' a b h0]
theorem op_shrN {t t2 : TypeId} {x y : Operand} {k' : IntKind} {a b : Int} (hx : ev e x = some (.int .u64 a)) (hy : ev e y = some (.int k' b)) (h0 : 0 ≤ b) (h1 : b ≤ 64) :
    OpT P σ n F ⟨dst, .binOp .shr t x y t2, ty, pos, after, guard⟩ e [] (Det (.int .u64 (a / 2 ^ b.toNat))) := by
  have h := op_shr (P := P) (σ := σ) (n := n) (F := F) (dst := dst) (ty := ty) (pos := pos) (after := after) (guard := guard) (t := t) (t2 := t2) hx hy h0
  rwa [show min b.toNat IntKind.u64.bits = b.toNat by simp [IntKind.bits]; omega] at h
theorem op_xor8 {t t2 : TypeId} {x y : Operand} {a : Int} (hx : ev e x = some (.int .u8 a)) (hy : ev e y = some (.int .u8 0)) (h : 0 ≤ a ∧ a < 256) :
    OpT P σ n F ⟨dst, .binOp .xor t x y t2, ty, pos, after, guard⟩ e [] (Det (.int .u8 a)) :=
  op_int hx hy fun w => by
    simp only [binOp, Op.intBits]
    obtain ⟨m, rfl⟩ := Int.eq_ofNat_of_zero_le h.1
    have hm : m < 256 := by omega
    have hz : (BitVec.ofInt IntKind.u8.bits (m : Int) ^^^ BitVec.ofInt IntKind.u8.bits 0).toNat = m := by
      show (BitVec.ofInt 8 (m : Int) ^^^ 0#8).toNat = m
      rw [BitVec.xor_zero, BitVec.toNat_ofInt]; simp; omega
    rw [hz]
    simp [IntKind.bits, IntKind.wrap, IntKind.signed]
    omega
theorem op_convU {x : Operand} {k : IntKind} {a : Int} {T T' : TypeId} (hx : ev e x = some (.int k a)) (hs : (P.underlying T).isSome = true) (hu : P.underlying T' = some (.int .u8)) (h : 0 ≤ a) : OpT P σ n F ⟨dst, .convert T T' x, ty, pos, after, guard⟩ e [] (Det (.int .u8 ((UInt8.ofNat a.toNat).toNat : Nat))) := by
  have := op_conv (P := P) (σ := σ) (n := n) (F := F) (dst := dst) (ty := ty) (pos := pos) (after := after) (guard := guard) hx hs hu
  rwa [show IntKind.u8.wrap a = ((UInt8.ofNat a.toNat).toNat : Nat) by
    obtain ⟨m, rfl⟩ := Int.eq_ofNat_of_zero_le h
    simp [IntKind.wrap, IntKind.bits, IntKind.signed]] at this
theorem op_convU64 {x : Operand} {k : IntKind} {a : Int} {T T' : TypeId} (hx : ev e x = some (.int k a)) (hs : (P.underlying T).isSome = true) (hu : P.underlying T' = some (.int .u64)) (h : 0 ≤ a ∧ a ≤ 18446744073709551615) : OpT P σ n F ⟨dst, .convert T T' x, ty, pos, after, guard⟩ e [] (Det (.int .u64 a)) := by
  have := op_conv (P := P) (σ := σ) (n := n) (F := F) (dst := dst) (ty := ty) (pos := pos) (after := after) (guard := guard) hx hs hu
  rwa [show IntKind.u64.wrap a = a by simp [IntKind.wrap, IntKind.bits, IntKind.signed]; omega] at this
theorem op_convI64 {x : Operand} {k : IntKind} {a : Int} {T T' : TypeId} (hx : ev e x = some (.int k a)) (hs : (P.underlying T).isSome = true) (hu : P.underlying T' = some (.int .i64)) (h : -9223372036854775808 ≤ a ∧ a ≤ 9223372036854775807) : OpT P σ n F ⟨dst, .convert T T' x, ty, pos, after, guard⟩ e [] (Det (.int .i64 a)) := by
  have := op_conv (P := P) (σ := σ) (n := n) (F := F) (dst := dst) (ty := ty) (pos := pos) (after := after) (guard := guard) hx hs hu
  rwa [wrap_i64 h] at this
theorem op_eqPtr {T E : Nat} {x : Operand} {a : Option Addr} {t2 : TypeId} (hx : ev e x = some (.pointer a)) (hu : P.underlying T = some (.pointer E)) :
    OpT P σ n F ⟨dst, .binOp .eql T x (.const (.pointer none)) t2, ty, pos, after, guard⟩ e [] (Det (.bool a.isNone)) :=
  opt_run fun A w hr _ => by
    have h : (Op.equal T (.pointer a) (.pointer none)).run P w = .ok a.isNone w := by
      show (Op.equalIn (9999 + 1) T _ _).run P w = _
      unfold Op.equalIn
      cases a <;> simp [run_underlying hu, Sem.run_bind]
    have hc : A.eval (.const (.pointer none)) = .pointer none := rfl
    simp [execOp, hr.ev hx, hc, eqGuard, Sem.run_bind, binOp, h]
theorem op_nePtr {T E : Nat} {x : Operand} {a : Option Addr} {t2 : TypeId} (hx : ev e x = some (.pointer a)) (hu : P.underlying T = some (.pointer E)) :
    OpT P σ n F ⟨dst, .binOp .neq T x (.const (.pointer none)) t2, ty, pos, after, guard⟩ e [] (Det (.bool a.isSome)) :=
  opt_run fun A w hr _ => by
    have h : (Op.equal T (.pointer a) (.pointer none)).run P w = .ok a.isNone w := by
      show (Op.equalIn (9999 + 1) T _ _).run P w = _
      unfold Op.equalIn
      cases a <;> simp [run_underlying hu, Sem.run_bind]
    have hc : A.eval (.const (.pointer none)) = .pointer none := rfl
    cases a <;> simp [execOp, hr.ev hx, hc, eqGuard, Sem.run_bind, binOp, h]
theorem op_bytesStr {T T' E : TypeId} {x : Operand} {v : Value} {l : List UInt8} (hx : ev e x = some v) (hu : P.underlying T = some (.slice E)) (hE : P.underlying E = some (.int .u8)) (hd : P.underlying T' = some .string) (h : Sl σ F encU 1 v l) :
    OpT P σ n F ⟨dst, .convert T T' x, ty, pos, after, guard⟩ e [] (Det (.string (str l))) :=
  opt_run fun A w hr ho => by
    obtain ⟨_, _, hv⟩ := h.ent w ho
    have hrun : (convert T T' v).run P w = .ok (.string (str l)) w := by
      rcases hv with ⟨a0, c0, rfl, hl⟩ | ⟨b, o, cap, rfl, hle, hr⟩
      · have : l = [] := by simpa using hl
        subst this
        rw [run_convert_bytes_string _ _ _ _ _ _ _ hu hE hd]
        cases a0 with
        | none => simp [Conv.bytesToString]; rfl
        | some a1 => rw [run_bytesToString w a1 0 c0 [] (run_loadCells_list w a1 [] (fun j u hj => by simp at hj))]; rfl
      · have hcells : (loadCells ⟨b, o, none⟩ l.length).run P w = .ok ((l.map fun x : UInt8 => (x.toNat : Int)).map (Value.int .u8)).toArray w := by
          have := run_loadCells_list (P := P) w ⟨b, o, none⟩ ((l.map fun x : UInt8 => (x.toNat : Int)).map (Value.int .u8)) (fun j u hj => by
            rw [Addr.add_mid]
            refine hr j u ?_
            rw [flat_encU]; exact hj)
          simpa using this
        rw [run_convert_bytes_string _ _ _ _ _ _ _ hu hE hd]
        rw [show (List.map encU l).length = l.length by simp]
        rw [run_bytesToString w _ _ _ _ hcells, foldl_push_bytes]
        congr 2
        apply ByteArray.ext
        simp [str]
        apply List.ext_getElem
        · simp
        · intro i h1 h2; simp
    simp [execOp, hr.ev hx, Sem.run_bind, hrun]
end
end Go.SL
