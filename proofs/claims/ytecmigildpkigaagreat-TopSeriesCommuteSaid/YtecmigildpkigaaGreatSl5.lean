/- Further operations for the symbolic logic of Sl0: comparisons, strings, conversions, division, arrays, stores into slices. Conditions: none. -/
import Derived.Test.YtecmigildpkigaaGreatSl4
import Derived.WideShapes
namespace Go.SL
open Go.RowKit
set_option linter.unusedSimpArgs false
set_option linter.unusedVariables false
section
variable {P : Program} {σ : World} {n : Nat} {F : List Res} {e : Env} {R : RL} {dst : Option Tmp} {ty : TypeId} {pos : String} {after : Array Edge} {guard : Option (Nat × Bool)}
  {ops : Array Oper} {Q : Exit → Act → World → Prop} {K : Act → World → Prop} {rest : List Oper}

/-- A fact that memory entails is fetched. -/
theorem w_fact {c : Code} {p : Prop} (h : Ent σ (rs R ++ F) (fun _ => p)) (k : p → W P σ n c Q e R F) : W P σ n c Q e R F := fun a w hr ho => k (h w ho) a w hr ho
theorem wl_fact {p : Prop} (h : Ent σ (rs R ++ F) (fun _ => p)) (k : p → WL P σ n ops Q K rest e R F) : WL P σ n ops Q K rest e R F := fun a w hr ho => k (h w ho) a w hr ho
theorem fn_fact {f : Nat} {args : List Value} {S : Value → RL → Prop} {p : Prop} (h : Ent σ F (fun _ => p)) (k : p → FnT P σ F f args R S) : FnT P σ F f args R S := fun w ho => k (h w ho.drop) w ho
/-- The shape of a slice's value. -/
theorem Sl.shape {α : Type} {enc : α → List Value} {k : Nat} {a : Option Addr} {m c : Nat} {l : List α} (h : Sl σ F enc k (.slice a m c) l) : Ent σ F (fun _ => m = l.length ∧ (a = none → l = []) ∧ m ≤ c) := by
  refine h.ent.mono fun w hw => ?_
  obtain ⟨_, _, hv⟩ := hw
  rcases hv with ⟨a0, c0, hv, hl⟩ | ⟨b, o, cap, hv, hle, _⟩
  · simp at hv; obtain ⟨rfl, rfl, rfl⟩ := hv
    have : l = [] := by simpa using hl
    subst this; simp
  · simp at hv; obtain ⟨rfl, rfl, rfl⟩ := hv
    simpa using hle

/-! comparisons -/
theorem run_equal_nil {T E : Nat} {a : Option Addr} {m c : Nat} {w : World} (hu : P.underlying T = some (.slice E)) : (Op.equal T (.slice a m c) (.slice none 0 0)).run P w = .ok a.isNone w := by
  show (Op.equalIn (9999 + 1) T _ _).run P w = _
  unfold Op.equalIn
  cases a <;> simp [run_underlying hu, Sem.run_bind]
theorem run_equal_bool {T : Nat} {a b : Bool} {w : World} (hu : P.underlying T = some .bool) : (Op.equal T (.bool a) (.bool b)).run P w = .ok (a == b) w := by
  show (Op.equalIn (9999 + 1) T _ _).run P w = _
  exact run_equalIn_bool' w 9999 T a b hu
theorem op_eqNil {T E k : Nat} {x : Operand} {a : Option Addr} {m c : Nat} {t2 : TypeId} (hx : ev e x = some (.slice a m c)) (hT : sliceB P T E k = true) :
    OpT P σ n F ⟨dst, .binOp .eql T x (.const (.slice none 0 0)) t2, ty, pos, after, guard⟩ e [] (Det (.bool a.isNone)) :=
  opt_run fun A w hr _ => by
    obtain ⟨i, hu, _⟩ := sliceB_spec hT
    have h := run_equal_nil (P := P) (a := a) (m := m) (c := c) (w := w) hu
    have hc : A.eval (.const (.slice none 0 0)) = .slice none 0 0 := rfl
    simp [execOp, hr.ev hx, hc, eqGuard, Sem.run_bind, binOp, h]
theorem op_neNil {T E k : Nat} {x : Operand} {a : Option Addr} {m c : Nat} {t2 : TypeId} (hx : ev e x = some (.slice a m c)) (hT : sliceB P T E k = true) :
    OpT P σ n F ⟨dst, .binOp .neq T x (.const (.slice none 0 0)) t2, ty, pos, after, guard⟩ e [] (Det (.bool a.isSome)) :=
  opt_run fun A w hr _ => by
    obtain ⟨i, hu, _⟩ := sliceB_spec hT
    have h := run_equal_nil (P := P) (a := a) (m := m) (c := c) (w := w) hu
    have hc : A.eval (.const (.slice none 0 0)) = .slice none 0 0 := rfl
    cases a <;> simp [execOp, hr.ev hx, hc, eqGuard, Sem.run_bind, binOp, h]
theorem op_eqB {T : Nat} {x y : Operand} {a b : Bool} {t2 : TypeId} (hx : ev e x = some (.bool a)) (hy : ev e y = some (.bool b)) (hu : P.underlying T = some .bool) :
    OpT P σ n F ⟨dst, .binOp .eql T x y t2, ty, pos, after, guard⟩ e [] (Det (.bool (a == b))) :=
  opt_run fun A w hr _ => by
    have h := run_equal_bool (P := P) (a := a) (b := b) (w := w) hu
    simp [execOp, hr.ev hx, hr.ev hy, eqGuard, Sem.run_bind, binOp, h]
theorem op_neB {T : Nat} {x y : Operand} {a b : Bool} {t2 : TypeId} (hx : ev e x = some (.bool a)) (hy : ev e y = some (.bool b)) (hu : P.underlying T = some .bool) :
    OpT P σ n F ⟨dst, .binOp .neq T x y t2, ty, pos, after, guard⟩ e [] (Det (.bool (a != b))) :=
  opt_run fun A w hr _ => by
    have h := run_equal_bool (P := P) (a := a) (b := b) (w := w) hu
    simp [execOp, hr.ev hx, hr.ev hy, eqGuard, Sem.run_bind, binOp, h]; cases a <;> cases b <;> rfl
/-- Structs and arrays: what their comparison yields is asked once, for any world. -/
theorem op_eqA {T : Nat} {x y : Operand} {a b : Array Value} {t2 : TypeId} {r : Bool} (hx : ev e x = some (.agg a)) (hy : ev e y = some (.agg b)) (hg : P.eqGuardType P.depth T = false) (h : ∀ w, (Op.equal T (.agg a) (.agg b)).run P w = .ok r w) :
    OpT P σ n F ⟨dst, .binOp .eql T x y t2, ty, pos, after, guard⟩ e [] (Det (.bool r)) :=
  opt_run fun A w hr _ => by simp [execOp, hr.ev hx, hr.ev hy, run_eqGuard_agg w _ _ _ _ _ _ hg, Sem.run_bind, binOp, h w]
theorem op_neA {T : Nat} {x y : Operand} {a b : Array Value} {t2 : TypeId} {r : Bool} (hx : ev e x = some (.agg a)) (hy : ev e y = some (.agg b)) (hg : P.eqGuardType P.depth T = false) (h : ∀ w, (Op.equal T (.agg a) (.agg b)).run P w = .ok r w) :
    OpT P σ n F ⟨dst, .binOp .neq T x y t2, ty, pos, after, guard⟩ e [] (Det (.bool (!r))) :=
  opt_run fun A w hr _ => by simp [execOp, hr.ev hx, hr.ev hy, run_eqGuard_agg w _ _ _ _ _ _ hg, Sem.run_bind, binOp, h w]

/-! strings -/
theorem op_lenS {x : Operand} {s : ByteArray} {T : TypeId} (hx : ev e x = some (.string s)) (hu : P.underlying T = some .string) : OpT P σ n F ⟨dst, .call ⟨.builtin .len, #[x], #[T]⟩, ty, pos, after, guard⟩ e [] (Det (.int .i64 s.size)) :=
  opt_run fun a w hr ho => by simp [execOp, resolve, hr.ev hx, invoke, builtin, Builtin.len_, run_underlying hu, Sem.run_bind, goInt]
theorem op_idxS {x y : Operand} {s : ByteArray} {T : TypeId} {i : Nat} {b : UInt8} (hx : ev e x = some (.string s)) (hy : ev e y = some (.int .i64 i)) (hu : P.underlying T = some .string) (hi : s[i]? = some b) : OpT P σ n F ⟨dst, .index T x y, ty, pos, after, guard⟩ e [] (Det (.int .u8 b.toNat)) :=
  opt_run fun a w hr ho => by simp [execOp, hr.ev hx, hr.ev hy, Instr.index, asIntOf, run_underlying hu, Sem.run_bind, hi]
theorem op_cat {x y : Operand} {s t : ByteArray} {T t2 : TypeId} (hx : ev e x = some (.string s)) (hy : ev e y = some (.string t)) (hl : s.size + t.size ≤ 9223372036854775807) : OpT P σ n F ⟨dst, .binOp .add T x y t2, ty, pos, after, guard⟩ e [] (Det (.string (s ++ t))) :=
  opt_run fun a w hr ho => by
    have h : ¬ (((s.size + t.size : Nat) : Int) > IntKind.i64.max) := by simp [IntKind.max, IntKind.signed, IntKind.bits]; omega
    simp only [execOp, hr.ev hx, hr.ev hy, eqGuard, Sem.run_bind, binOp, Op.stringOp, h, if_false]; rfl
theorem op_eqStr {x y : Operand} {s t : ByteArray} {T t2 : TypeId} (hx : ev e x = some (.string s)) (hy : ev e y = some (.string t)) : OpT P σ n F ⟨dst, .binOp .eql T x y t2, ty, pos, after, guard⟩ e [] (Det (.bool (decide (s = t)))) :=
  opt_run fun a w hr ho => by
    have : (s.toList == t.toList) = decide (s = t) := by
      rw [Bool.eq_iff_iff]; simp only [beq_iff_eq, decide_eq_true_eq, ByteArray.toList_eq]
      exact ⟨fun h => Go.WideShapes.bytes_inj h, fun h => by rw [h]⟩
    simp [execOp, hr.ev hx, hr.ev hy, eqGuard, Sem.run_bind, binOp, Op.stringOp, this]
theorem op_neStr {x y : Operand} {s t : ByteArray} {T t2 : TypeId} (hx : ev e x = some (.string s)) (hy : ev e y = some (.string t)) : OpT P σ n F ⟨dst, .binOp .neq T x y t2, ty, pos, after, guard⟩ e [] (Det (.bool (decide (s ≠ t)))) :=
  opt_run fun a w hr ho => by
    have : (s.toList == t.toList) = decide (s = t) := by
      rw [Bool.eq_iff_iff]; simp only [beq_iff_eq, decide_eq_true_eq, ByteArray.toList_eq]
      exact ⟨fun h => Go.WideShapes.bytes_inj h, fun h => by rw [h]⟩
    simp [execOp, hr.ev hx, hr.ev hy, eqGuard, Sem.run_bind, binOp, Op.stringOp, this]

/-! numbers -/
theorem op_conv {x : Operand} {k k' : IntKind} {a : Int} {T T' : TypeId} (hx : ev e x = some (.int k a)) (hs : (P.underlying T).isSome = true) (hu : P.underlying T' = some (.int k')) : OpT P σ n F ⟨dst, .convert T T' x, ty, pos, after, guard⟩ e [] (Det (.int k' (k'.wrap a))) :=
  opt_run fun A w hr ho => by
    obtain ⟨d, hd⟩ := Option.isSome_iff_exists.1 hs
    simp [execOp, hr.ev hx, convert, run_underlying hu, run_underlying hd, Sem.run_bind, Conv.intToInt]
theorem op_quo {x y : Operand} {k : IntKind} {a b : Int} {t t2 : TypeId} (hx : ev e x = some (.int k a)) (hy : ev e y = some (.int k b)) (hb : b ≠ 0) : OpT P σ n F ⟨dst, .binOp .quo t x y t2, ty, pos, after, guard⟩ e [] (Det (.int k (k.wrap (a.tdiv b)))) :=
  op_int hx hy fun w => by simp [binOp, Op.intDiv, hb]
theorem op_rem {x y : Operand} {k : IntKind} {a b : Int} {t t2 : TypeId} (hx : ev e x = some (.int k a)) (hy : ev e y = some (.int k b)) (hb : b ≠ 0) : OpT P σ n F ⟨dst, .binOp .rem t x y t2, ty, pos, after, guard⟩ e [] (Det (.int k (a.tmod b))) :=
  op_int hx hy fun w => by simp [binOp, Op.intDiv, hb]
theorem op_remN {x y : Operand} {k : IntKind} {a b : Int} {t t2 : TypeId} (hx : ev e x = some (.int k a)) (hy : ev e y = some (.int k b)) (ha : 0 ≤ a) (hb : 0 < b) : OpT P σ n F ⟨dst, .binOp .rem t x y t2, ty, pos, after, guard⟩ e [] (Det (.int k (a % b))) := by
  have := op_rem (P := P) (σ := σ) (n := n) (F := F) (dst := dst) (t := t) (t2 := t2) (ty := ty) (pos := pos) (after := after) (guard := guard) hx hy (by omega)
  rwa [Int.tmod_eq_emod_of_nonneg ha] at this
theorem op_quoN {x y : Operand} {a b : Int} {t t2 : TypeId} (hx : ev e x = some (.int .i64 a)) (hy : ev e y = some (.int .i64 b)) (ha : 0 ≤ a) (hb : 0 < b) (hm : a ≤ 9223372036854775807) : OpT P σ n F ⟨dst, .binOp .quo t x y t2, ty, pos, after, guard⟩ e [] (Det (.int .i64 (a / b))) := by
  have := op_quo (P := P) (σ := σ) (n := n) (F := F) (dst := dst) (t := t) (t2 := t2) (ty := ty) (pos := pos) (after := after) (guard := guard) hx hy (by omega)
  rw [Int.tdiv_eq_ediv_of_nonneg ha, wrap_i64 ⟨by have := Int.ediv_nonneg ha (by omega : 0 ≤ b); omega, by have := Int.ediv_le_self b ha; omega⟩] at this
  exact this

/-! arrays and fields of values -/
def arrB (P : Program) (T len k : Nat) : Bool := match P.underlying T with
  | some (.array m E) => match P.info? E with
    | some i => m == len && i.size == k
    | none => false
  | _ => false
theorem op_idxArr {x y : Operand} {p : Addr} {T len k i : Nat} (hx : ev e x = some (.pointer (some p))) (hy : ev e y = some (.int .i64 i)) (ht : arrB P T len k = true) (hi : i < len) :
    OpT P σ n F ⟨dst, .indexAddr T x y, ty, pos, after, guard⟩ e [] (Det (.pointer (some (p.add (i * k))))) :=
  opt_run fun a w hr ho => by
    unfold arrB at ht
    split at ht
    · rename_i m E hu
      split at ht
      · rename_i inf hinf
        simp only [Bool.and_eq_true, beq_iff_eq] at ht
        obtain ⟨rfl, h2⟩ := ht
        have hsz : (sizeOf E).run P w = .ok k w := by simp [sizeOf, typeInfo, hinf, h2]
        simp [execOp, hr.ev hx, hr.ev hy, Instr.indexAt, asIntOf, Sem.run_bind, run_underlying hu, Instr.sureAddr, hi, hsz]
      · simp at ht
    · simp at ht
theorem op_field {x : Operand} {cs : Array Value} {T f off : Nat} {v : Value} (hx : ev e x = some (.agg cs)) (h : ∀ w, (Instr.field T (.agg cs) f).run P w = .ok v w) : OpT P σ n F ⟨dst, .field T x f, ty, pos, after, guard⟩ e [] (Det v) :=
  opt_run fun a w hr ho => by simp [execOp, hr.ev hx, h w, Sem.run_bind]
/-- An empty literal. -/
theorem op_lit0 {α : Type} {enc : α → List Value} {T E k lab : Nat} (hT : sliceB P T E k = true) :
    OpT P σ n F ⟨dst, .buildSlice T 0 #[], ty, pos, after, guard⟩ e [] (fun v ρ => ∃ a c, v = .slice a ([] : List α).length c ∧ ρ = [(lab, slW E enc k v [])]) := by
  intro Q K a w hr ho kk
  obtain ⟨i, hu, hi, hsz⟩ := sliceB_spec hT
  have : (execOp a.eval ⟨dst, .buildSlice T 0 #[], ty, pos, after, guard⟩).run P w = .ok (.value (.slice (some ⟨w.heap.size, 0, none⟩) 0 0)) (w.alloc (.cells #[] E)) := by
    have h0 : ∀ f : Nat → Value, Array.map f (Array.range 0) = #[] := fun f => by simp
    simp [execOp, Instr.buildSlice, run_underlying hu, sizeOf, typeInfo, hi, Sem.run_bind, Instr.fill, newRow, h0]
  unfold Oper.wp
  rw [this]
  exact kk _ _ _ ⟨_, _, rfl, rfl⟩ (ho.alloc ⟨by simp, by simp, .inr ⟨w.heap.size, 0, #[], by simp, rfl, by simp, by simp, by simp, by simp⟩⟩)

/-! stores into slices of the call's own -/
theorem flatten_set_uniform {k : Nat} : ∀ {xs : List (List Value)} {i j : Nat} {v : Value}, (∀ c ∈ xs, c.length = k) → i < xs.length → j < k → xs.flatten.set (i * k + j) v = (xs.set i ((xs.getD i []).set j v)).flatten
  | [], i, j, v, _, h, _ => by simp at h
  | x :: xs, 0, j, v, hk, _, hj => by
    have hx : x.length = k := hk x (by simp)
    simp only [List.flatten_cons, Nat.zero_mul, Nat.zero_add, List.set_cons_zero, List.getD_cons_zero]
    rw [List.set_append_left _ _ (by omega)]
  | x :: xs, i + 1, j, v, hk, hi, hj => by
    have hx : x.length = k := hk x (by simp)
    simp only [List.flatten_cons, List.set_cons_succ, List.getD_cons_succ]
    rw [← flatten_set_uniform (fun c hc => hk c (by simp [hc])) (by simpa using hi) hj]
    rw [List.set_append_right _ _ (by rw [hx, Nat.succ_mul]; omega)]
    congr 2
    rw [hx, Nat.succ_mul]; omega
/-- One cell of an element is exchanged. -/
theorem op_storeX {α : Type} {enc : α → List Value} {T E k i j lab : Nat} {x y : Operand} {a : Option Addr} {m c : Nat} {v : Value} {p : Addr} {l : List α} {b b' : α} (hx : ev e x = some (.pointer (some p))) (hy : ev e y = some v) (ht : oneB P T = true)
    (h1 : v.oneCell' = true) (hv1 : v.cells = #[v]) (hp : p = (idxA (.slice a m c) i k).add j) (hi : l[i]? = some b) (hj : j < k) (hb : (enc b).set j v = enc b') :
    OpT P σ n F ⟨dst, .store T x y, ty, pos, after, guard⟩ e [(lab, slW E enc k (.slice a m c) l)] (fun u ρ => u = undef ∧ ρ = [(lab, slW E enc k (.slice a m c) (l.set i b'))]) := by
  intro Q K A w hr ho kk
  obtain ⟨d, inf, _, _, hinf, hsz⟩ := oneB_spec ht
  obtain ⟨M, hM, hMs⟩ := own_head ho
  obtain ⟨hk1, hl1, hv⟩ := hM
  have hlt := ltE hi
  rcases hv with ⟨_, hn⟩ | ⟨g, cap, cur, hva, rfl, h3, h4, h5, h6⟩
  · have : l = [] := by simpa using hn
    subst this; simp at hlt
  · simp only [List.length_map] at hva h3 h5 h6
    simp at hva
    obtain ⟨rfl, rfl, rfl⟩ := hva
    have hg := hMs.single
    have hpos : i * k + j < l.length * k := by
      have : (i + 1) * k ≤ l.length * k := Nat.mul_le_mul_right k hlt
      rw [Nat.succ_mul] at this; omega
    have hsz2 : i * k + j < cur.toList.length := by
      rw [Array.length_toList, h5]
      exact Nat.lt_of_lt_of_le hpos (Nat.mul_le_mul_right k h3)
    have hpa : p = ⟨g, i * k + j, none⟩ := by rw [hp]; simp [idxA, Addr.add_mid]
    subst hpa
    have hw : w.heap[g]? = some (.cells cur.toList.toArray E (0, 0)) := by simpa using hg
    obtain ⟨a1, a2, a3, a4, a5⟩ := setCells_heap v.cells.toList w g (i * k + j) cur.toList E (0, 0) hw
    unfold Oper.wp
    have hall : v.cells.all (·.oneCell') = true := by rw [hv1]; simp [h1]
    have : (execOp A.eval ⟨dst, .store T x y, ty, pos, after, guard⟩).run P w = .ok .skip (w.setCells g (i * k + j) v.cells.toList) := by
      have hst := run_storeVar (P := P) (T := T) (v := v) hw (sz := 1) (by simp [hinf, hsz]) (by rw [hv1]; rfl) hall (Nat.succ_le_of_lt hsz2)
      simp [execOp, hr.ev hx, hr.ev hy, Instr.storeAt, Instr.sureAddr, Sem.run_bind, hst]
    rw [this]
    refine kk undef _ _ ⟨rfl, rfl⟩ ?_
    refine Own.swap (b := g) (o' := _) ho (fun m hm => ?_) ?_ a3 a4 a5 a1 (fun i hi o' h => by rw [a2 i hi]; exact h)
    · obtain ⟨_, _, hv⟩ := hm
      rcases hv with ⟨hv, _⟩ | ⟨g', cap', cur', hv, rfl, _⟩
      · simp at hv
      · simp at hv; rw [← hv.1]; exact ⟨_, by simp [single]; rfl⟩
    · have hset : (l.set i b').map enc = (l.map enc).set i (enc b') := by rw [List.map_set]
      refine ⟨?_, by simpa using hl1, .inr ⟨g, c, _, by simp, rfl, by simpa using h3, h4, ?_, ?_⟩⟩
      · rw [hset]
        intro c hc
        rcases List.mem_or_eq_of_mem_set hc with hc | rfl
        · exact hk1 c hc
        · rw [← hb, List.length_set]; exact hk1 _ (List.mem_map.2 ⟨b, List.mem_of_getElem? hi, rfl⟩)
      · simp [hv1, setsL, h5]
      · simp only [hv1, List.length_map, List.length_set, setsL]
        rw [hset]
        have h7 := flatten_set_uniform (k := k) (xs := l.map enc) (i := i) (j := j) (v := v) hk1 (by simpa using hlt) hj
        have h8 : (l.map enc).getD i [] = enc b := by simp [List.getD_eq_getElem?_getD, hi]
        rw [h8, hb] at h7
        rw [← h7, ← h6, List.take_set]
        done
theorem Sl.ofOwn {α : Type} {enc : α → List Value} {E k : Nat} {v : Value} {l : List α} {X : List Res} (h : slW E enc k v l ∈ X) (hl : l.length ≤ maxLen) : Sl σ X enc k v l := ⟨Ent.of_mem h says_slO, hl⟩
end
end Go.SL
