/- Numbers of 32 bits; two owned things as one; a pool of slices that are only read. Conditions: none. -/
import Derived.Test.YtecmigildpkigaaGreatSlX
import Derived.Test.YtecmigildpkigaaGreatSlJ
namespace Go.SL
open Go Go.RowKit
set_option linter.unusedVariables false
set_option linter.unusedSimpArgs false
section
variable {P : Program} {σ : World} {n : Nat} {F : List Res} {e : Env} {R : RL} {dst : Option Tmp} {ty : TypeId} {pos : String} {after : Array Edge} {guard : Option (Nat × Bool)}
theorem wrap_u32 {z : Int} (h : 0 ≤ z ∧ z ≤ 4294967295) : IntKind.u32.wrap z = z := by simp [IntKind.bits, IntKind.wrap, IntKind.signed]; omega
theorem op_xorU32 {t t2 : TypeId} {x y : Operand} {a b : Nat} (hx : ev e x = some (.int .u32 a)) (hy : ev e y = some (.int .u32 b)) (ha : a < 4294967296) (hb : b < 4294967296) :
    OpT P σ n F ⟨dst, .binOp .xor t x y t2, ty, pos, after, guard⟩ e [] (Det (.int .u32 ((a ^^^ b : Nat) : Int))) :=
  op_int hx hy fun w => by
    have h1 : (BitVec.ofInt IntKind.u32.bits (a : Int) ^^^ BitVec.ofInt IntKind.u32.bits (b : Int)).toNat = a ^^^ b := by
      rw [BitVec.toNat_xor, BitVec.ofInt_natCast, BitVec.ofInt_natCast, BitVec.toNat_ofNat, BitVec.toNat_ofNat]
      show a % 2 ^ 32 ^^^ b % 2 ^ 32 = _
      rw [Nat.mod_eq_of_lt (by omega), Nat.mod_eq_of_lt (by omega)]
    have h2 : a ^^^ b < 2 ^ 32 := Nat.xor_lt_two_pow (n := 32) (by omega) (by omega)
    simp only [binOp, Op.intBits]
    rw [h1, wrap_u32 (by omega)]
    rfl
theorem op_notU32 {t : TypeId} {x : Operand} {a : Nat} (hx : ev e x = some (.int .u32 a)) (ha : a < 4294967296) : OpT P σ n F ⟨dst, .unOp .xor t x, ty, pos, after, guard⟩ e [] (Det (.int .u32 ((a ^^^ 4294967295 : Nat) : Int))) :=
  opt_run fun A w hr _ => by
    have h1 : (BitVec.ofInt IntKind.u32.bits (IntKind.u32.max) ^^^ BitVec.ofInt IntKind.u32.bits (a : Int)).toNat = a ^^^ 4294967295 := by
      rw [BitVec.toNat_xor, BitVec.ofInt_natCast, BitVec.toNat_ofNat]
      show 4294967295 ^^^ a % 2 ^ 32 = _
      rw [Nat.mod_eq_of_lt (by omega), Nat.xor_comm]
    have h3 : a ^^^ 4294967295 < 2 ^ 32 := Nat.xor_lt_two_pow (n := 32) (by omega) (by omega)
    have h2 : (Op.unary .xor (.int .u32 (a : Int))).run P w = .ok (.int .u32 ((a ^^^ 4294967295 : Nat) : Int)) w := by
      show (Op.intBits .xor .u32 (IntKind.u32.max) (a : Int)).run P w = _
      simp only [Op.intBits]
      rw [h1, wrap_u32 (by omega)]; rfl
    simp [execOp, hr.ev hx, h2, Sem.run_bind]
theorem op_and1U32 {t t2 : TypeId} {x y : Operand} {a : Nat} (hx : ev e x = some (.int .u32 a)) (hy : ev e y = some (.int .u32 1)) (ha : a < 4294967296) :
    OpT P σ n F ⟨dst, .binOp .and t x y t2, ty, pos, after, guard⟩ e [] (Det (.int .u32 ((a % 2 : Nat) : Int))) :=
  op_int hx hy fun w => by
    have h1 : (BitVec.ofInt IntKind.u32.bits (a : Int) &&& BitVec.ofInt IntKind.u32.bits 1).toNat = a % 2 := by
      rw [BitVec.toNat_and, BitVec.ofInt_natCast, BitVec.toNat_ofNat]
      show a % 2 ^ 32 &&& 1 = _
      rw [Nat.mod_eq_of_lt (by omega)]; exact Nat.and_one_is_mod a
    simp only [binOp, Op.intBits]
    rw [h1, wrap_u32 (by omega)]
    rfl
theorem op_shr1U32 {t t2 : TypeId} {x y : Operand} {k' : IntKind} {a : Nat} (hx : ev e x = some (.int .u32 a)) (hy : ev e y = some (.int k' 1)) :
    OpT P σ n F ⟨dst, .binOp .shr t x y t2, ty, pos, after, guard⟩ e [] (Det (.int .u32 ((a / 2 : Nat) : Int))) := by
  have h := op_shr (P := P) (σ := σ) (n := n) (F := F) (dst := dst) (ty := ty) (pos := pos) (after := after) (guard := guard) (t := t) (t2 := t2) hx hy (by omega)
  rwa [show (a : Int) / 2 ^ min (1 : Int).toNat IntKind.u32.bits = ((a / 2 : Nat) : Int) by
    rw [show (2 : Int) ^ min (1 : Int).toNat IntKind.u32.bits = 2 from rfl]; omega] at h
theorem op_conv8U32 {x : Operand} {b : UInt8} {T T' : TypeId} (hx : ev e x = some (.int .u8 b.toNat)) (hs : (P.underlying T).isSome = true) (hu : P.underlying T' = some (.int .u32)) : OpT P σ n F ⟨dst, .convert T T' x, ty, pos, after, guard⟩ e [] (Det (.int .u32 (b.toNat : Int))) := by
  have h := op_conv (P := P) (σ := σ) (n := n) (F := F) (dst := dst) (ty := ty) (pos := pos) (after := after) (guard := guard) hx hs hu
  have := b.toNat_lt
  rwa [wrap_u32 (by omega)] at h
end
/-! ### Two things as one -/
def mun (m m' : Mem) : Mem := fun i => match m i with | some o => some o | none => m' i
def star (r r' : Res) : Res := fun m => ∃ m1 m2, MDisj m1 m2 ∧ m = mun m1 m2 ∧ r m1 ∧ r' m2
theorem mun_l {m m' : Mem} {i : Nat} {o : Obj} (h : m i = some o) : mun m m' i = some o := by unfold mun; rw [h]
theorem mun_r {m m' : Mem} (hd : MDisj m m') {i : Nat} {o : Obj} (h : m' i = some o) : mun m m' i = some o := by
  rcases hd i with h1 | h1
  · unfold mun; rw [h1]; exact h
  · rw [h1] at h; simp at h
theorem mun_none {m m' : Mem} {i : Nat} (h : m i = none) (h' : m' i = none) : mun m m' i = none := by unfold mun; rw [h]; exact h'
theorem Own.star {σ : World} {r r' : Res} {F : List Res} {w : World} (h : Own σ (r :: r' :: F) w) : Own σ (SL.star r r' :: F) w := by
  obtain ⟨h1, h2, h3, l, hl, hm, hd⟩ := h
  match l, hl with
  | p :: q :: l, hl =>
    simp only [List.map_cons, List.cons.injEq] at hl
    obtain ⟨e1, e2, e3⟩ := hl
    subst e1; subst e2
    obtain ⟨d1, d2⟩ := List.pairwise_cons.1 hd
    obtain ⟨d3, d4⟩ := List.pairwise_cons.1 d2
    have hp := hm p (by simp)
    have hq := hm q (by simp)
    refine ⟨h1, h2, h3, (SL.star p.1 q.1, mun p.2 q.2) :: l, by simp [e3], fun x hx => ?_, List.pairwise_cons.2 ⟨fun x hx i => ?_, d4⟩⟩
    · rcases List.mem_cons.1 hx with rfl | hx
      · refine ⟨⟨p.2, q.2, d1 q (by simp), rfl, hp.1, hq.1⟩, fun (i : Nat) (o : Obj) hi => ?_⟩
        change mun p.2 q.2 i = some o at hi
        cases hpi : p.2 i with
        | some o' =>
          rw [mun_l hpi] at hi
          rw [← hi]; exact hp.2 i o' hpi
        | none =>
          unfold mun at hi
          rw [hpi] at hi
          exact hq.2 i o hi
      · exact hm x (by simp [hx])
    · rcases d1 x (by simp [hx]) i with a | a
      · rcases d3 x hx i with b | b
        · exact .inl (mun_none a b)
        · exact .inr b
      · exact .inr a
theorem Says.star_l {r r' : Res} {φ : World → Prop} (h : Says r φ) : Says (star r r') φ := fun m w hm hs => by
  obtain ⟨m1, m2, hd, rfl, h1, h2⟩ := hm
  exact h m1 w h1 fun i o hi => hs i o (mun_l hi)
theorem Says.star_r {r r' : Res} {φ : World → Prop} (h : Says r' φ) : Says (star r r') φ := fun m w hm hs => by
  obtain ⟨m1, m2, hd, rfl, h1, h2⟩ := hm
  exact h m2 w h2 fun i o hi => hs i o (mun_r hd hi)
section
variable {P : Program} {σ : World} {n : Nat} {F : List Res} {e : Env} {R A B : RL} {ops : Array Oper} {rest : List Oper} {Q : Exit → Act → World → Prop} {K : Act → World → Prop}
theorem Own.join {l1 l2 lab : Nat} {r1 r2 : Res} {w : World} (ht : takeL R [l1, l2] = some ([(l1, r1), (l2, r2)], B)) (h : Own σ (rs R ++ F) w) : Own σ (rs ((lab, SL.star r1 r2) :: B) ++ F) w := by
  have h1 : Own σ (r1 :: r2 :: (rs B ++ F)) w := by simpa [rs] using h.take ht
  exact h1.star
theorem w_star {c : Code} (l1 l2 lab : Nat) {r1 r2 : Res} (ht : takeL R [l1, l2] = some ([(l1, r1), (l2, r2)], B)) (k : W P σ n c Q e ((lab, SL.star r1 r2) :: B) F) : W P σ n c Q e R F := fun a w hr ho => k a w hr (Own.join ht ho)
theorem wl_star (l1 l2 lab : Nat) {r1 r2 : Res} (ht : takeL R [l1, l2] = some ([(l1, r1), (l2, r2)], B)) (k : WL P σ n ops Q K rest e ((lab, SL.star r1 r2) :: B) F) : WL P σ n ops Q K rest e R F := fun a w hr ho => k a w hr (Own.join ht ho)
theorem st_star (l1 l2 lab : Nat) {r1 r2 : Res} (ht : takeL R [l1, l2] = some ([(l1, r1), (l2, r2)], B)) (k : St σ n K e ((lab, SL.star r1 r2) :: B) F) : St σ n K e R F := fun a w hr ho => k a w hr (Own.join ht ho)
end
/-! ### A pool of slices -/
/-- Slices that are only read from now on. -/
def pool {α : Type} (E : Nat) (enc : α → List Value) (k : Nat) : List (Value × List α) → Res
  | [] => fun m => m = fun _ => none
  | p :: P => star (slW E enc k p.1 p.2) (pool E enc k P)
theorem pool_nil {α : Type} (E : Nat) (enc : α → List Value) (k : Nat) : pool E enc k ([] : List (Value × List α)) (fun _ => none) := rfl
theorem says_pool {α : Type} {E : Nat} {enc : α → List Value} {k : Nat} {v : Value} {l : List α} : ∀ {P : List (Value × List α)}, (v, l) ∈ P → Says (pool E enc k P) (slT enc k v l)
  | [], h => by simp at h
  | p :: P, h => by
    rcases List.mem_cons.1 h with h | h
    · subst h; exact Says.star_l says_slO
    · exact Says.star_r (says_pool h)
theorem Sl.pool {σ : World} {R : RL} {F : List Res} {α : Type} {enc : α → List Value} {E k : Nat} {v : Value} {l : List α} {P : List (Value × List α)} (lab : Nat) (h : getL R lab = some (SL.pool E enc k P)) (hm : (v, l) ∈ P) (hl : l.length ≤ maxLen) : Sl σ (rs R ++ F) enc k v l := ⟨Ent.lab h (says_pool hm), hl⟩
theorem Sl.poolF {σ : World} {F : List Res} {α : Type} {enc : α → List Value} {E k : Nat} {v : Value} {l : List α} {P : List (Value × List α)} (h : Ent σ F (slT enc k v l)) (hl : l.length ≤ maxLen) : Sl σ F enc k v l := ⟨h, hl⟩
end Go.SL
