/- Triples of the single operations for the symbolic logic of Sl0. Conditions: none. -/
import Derived.Test.YtecmigildpkigaaGreatSl0
import Derived.Deep.MidRow
import Derived.Great.BuildSlice
import Derived.Laws.AppendOwnNone
namespace Go.SL
open Go.RowKit
set_option linter.unusedSimpArgs false
set_option linter.unusedVariables false

/-! ### What lies at an address -/
/-- The cells cs lie at p. -/
def At (p : Addr) (cs : List Value) (w : World) : Prop := ∃ b o, p = ⟨b, o, none⟩ ∧ w.rangeAt b o cs
theorem At.drop {p : Addr} {cs : List Value} {w : World} (h : At p cs w) (j : Nat) : At (p.add j) (cs.drop j) w := by
  obtain ⟨b, o, rfl, h⟩ := h
  exact ⟨b, o + j, Addr.add_mid b o j, fun i v hi => by rw [Nat.add_assoc]; exact h (j + i) v (by simpa using hi)⟩
theorem At.take {p : Addr} {cs : List Value} {w : World} (h : At p cs w) (s : Nat) : At p (cs.take s) w := by
  obtain ⟨b, o, rfl, h⟩ := h
  exact ⟨b, o, rfl, fun i v hi => h i v (by rw [List.getElem?_take] at hi; split at hi <;> simp_all)⟩
/-- A slice's elements, read only: xs are the cells of its elements, k of each. -/
def slR (k : Nat) (v : Value) (xs : List (List Value)) (w : World) : Prop :=
  (∀ c ∈ xs, c.length = k) ∧ xs.length ≤ maxLen ∧
  ((∃ a c, v = .slice a 0 c ∧ xs = []) ∨ ∃ b o cap, v = .slice (some ⟨b, o, none⟩) xs.length cap ∧ xs.length ≤ cap ∧ w.rangeAt b o xs.flatten)
def idxA (v : Value) (i k : Nat) : Addr := match v with
  | .slice (some a) _ _ => a.add (i * k)
  | _ => default
theorem flatten_drop_uniform {k : Nat} : ∀ {xs : List (List Value)} {i : Nat}, (∀ c ∈ xs, c.length = k) → xs.flatten.drop (i * k) = (xs.drop i).flatten
  | [], i, _ => by simp
  | x :: xs, 0, _ => by simp
  | x :: xs, i + 1, h => by
    have hx : x.length = k := h x (by simp)
    rw [List.flatten_cons, List.drop_succ_cons, ← flatten_drop_uniform (fun c hc => h c (List.mem_cons_of_mem _ hc)), List.drop_append, Nat.succ_mul]
    rw [List.drop_of_length_le (by omega)]
    simp only [List.nil_append]
    congr 1; omega
theorem slR.at {k : Nat} {v : Value} {xs : List (List Value)} {w : World} (h : slR k v xs w) {i : Nat} {c : List Value} (hi : xs[i]? = some c) : At (idxA v i k) c w := by
  obtain ⟨hk, _, h⟩ := h
  rcases h with ⟨_, _, _, rfl⟩ | ⟨b, o, cap, rfl, _, hr⟩
  · simp at hi
  · refine ⟨b, o + i * k, by simp [idxA, Addr.add_mid], fun j u hj => ?_⟩
    rw [Nat.add_assoc]
    refine hr _ u ?_
    have h1 := flatten_drop_uniform (i := i) hk
    have h2 : xs.drop i = c :: xs.drop (i + 1) := by
      obtain ⟨hlt, rfl⟩ := List.getElem?_eq_some_iff.1 hi
      exact List.drop_eq_getElem_cons hlt
    have h3 : (xs.flatten.drop (i * k))[j]? = some u := by
      rw [h1, h2, List.flatten_cons, List.getElem?_append_left (by
        rcases Nat.lt_or_ge j c.length with h | h
        · exact h
        · simp [List.getElem?_eq_none h] at hj)]
      exact hj
    simpa using h3
theorem slR.len {k : Nat} {v : Value} {xs : List (List Value)} {w : World} (h : slR k v xs w) : ∃ a cap, v = .slice a xs.length cap := by
  obtain ⟨_, _, h⟩ := h
  rcases h with ⟨a, c, rfl, rfl⟩ | ⟨b, o, cap, rfl, _⟩
  · exact ⟨a, c, rfl⟩
  · exact ⟨_, _, rfl⟩

/-! ### Resources -/
def single (b : Nat) (o : Obj) : Mem := fun i => if i = b then some o else none
theorem MSub.single {b : Nat} {o : Obj} {w : World} (h : MSub (single b o) w) : w.heap[b]? = some o := h b o (by simp [SL.single])
/-- An object in a block of the call's own. -/
def blk (b : Nat) (o : Obj) : Res := fun m => m = single b o
/-- A row of cells, writable. -/
def cel (b : Nat) (c : List Value) (T : TypeId) : Res := blk b (.cells c.toArray T (0, 0))
/-- A slice of the call's own: element type E, k cells each, elements xs. -/
def slO (E k : Nat) (v : Value) (xs : List (List Value)) : Res := fun m =>
  (∀ c ∈ xs, c.length = k) ∧ xs.length ≤ maxLen ∧
  ((v = .slice none 0 0 ∧ xs = []) ∨ ∃ g cap cur, v = .slice (some ⟨g, 0, none⟩) xs.length cap ∧ m = single g (.cells cur E (0, 0)) ∧ xs.length ≤ cap ∧ cap ≤ maxLen ∧ cur.size = cap * k ∧ cur.toList.take (xs.length * k) = xs.flatten)
theorem says_blk (b : Nat) (o : Obj) : Says (blk b o) (fun w => w.heap[b]? = some o) := fun m w h hs => by subst h; exact hs.single
theorem At.of_heap {w : World} {b o : Nat} {c : Array Value} {T : TypeId} {fr : Nat × Nat} (h : w.heap[b]? = some (.cells c T fr)) : At ⟨b, o, none⟩ (c.toList.drop o) w :=
  ⟨b, o, rfl, fun j v hj => by simp only [World.cell?, h]; simpa using hj⟩
theorem says_cel {b : Nat} {c : List Value} {T : TypeId} (o : Nat) : Says (cel b c T) (At ⟨b, o, none⟩ (c.drop o)) := fun m w h hs => by
  have := says_blk _ _ m w h hs
  simpa using At.of_heap (o := o) this
theorem says_slO {E k : Nat} {v : Value} {xs : List (List Value)} : Says (slO E k v xs) (slR k v xs) := fun m w h hs => by
  obtain ⟨h1, h2, h⟩ := h
  refine ⟨h1, h2, ?_⟩
  rcases h with ⟨rfl, rfl⟩ | ⟨g, cap, cur, rfl, rfl, h3, h4, h5, h6⟩
  · exact .inl ⟨_, _, rfl, rfl⟩
  · refine .inr ⟨g, 0, cap, rfl, h3, fun j u hj => ?_⟩
    have h7 := hs.single
    have h8 : cur.toList[j]? = some u := by
      rw [← h6] at hj
      rw [List.getElem?_take] at hj
      split at hj <;> simp_all
    simp only [World.cell?, h7]
    simpa using h8

/-! ### Types, as tests that the kernel runs -/
def oneB (P : Program) (T : TypeId) : Bool := match P.underlying T, P.info? T with
  | some d, some i => !d.isRow && i.size == 1
  | _, _ => false
def aggB (P : Program) (T s : Nat) : Bool := match P.underlying T, P.info? T with
  | some d, some i => d.isRow && i.size == s
  | _, _ => false
def sliceB (P : Program) (T E k : Nat) : Bool := match P.underlying T, P.info? E with
  | some (.slice e), some i => e == E && i.size == k
  | _, _ => false
def fieldB (P : Program) (T f off : Nat) : Bool := match P.underlying T with
  | some (.struct fs) => match fs[f]? with
    | some fd => match P.info? fd.type with
      | some i => fd.offset == off && i.size != 0
      | none => false
    | none => false
  | _ => false
theorem oneB_spec {P : Program} {T : TypeId} (h : oneB P T = true) : ∃ d i, P.underlying T = some d ∧ d.isRow = false ∧ P.info? T = some i ∧ i.size = 1 := by
  unfold oneB at h
  split at h
  · rename_i d i hd hi; simp at h; exact ⟨d, i, hd, h.1, hi, h.2⟩
  · simp at h
theorem aggB_spec {P : Program} {T s : Nat} (h : aggB P T s = true) : ∃ d i, P.underlying T = some d ∧ d.isRow = true ∧ P.info? T = some i ∧ i.size = s := by
  unfold aggB at h
  split at h
  · rename_i d i hd hi; simp at h; exact ⟨d, i, hd, h.1, hi, h.2⟩
  · simp at h
theorem sliceB_spec {P : Program} {T E k : Nat} (h : sliceB P T E k = true) : ∃ i, P.underlying T = some (.slice E) ∧ P.info? E = some i ∧ i.size = k := by
  unfold sliceB at h
  split at h
  · rename_i d i hd hi; simp at h; obtain ⟨rfl, h⟩ := h; exact ⟨i, hd, hi, h⟩
  · simp at h

/-! ### Loads -/
theorem run_load_one {P : Program} {w : World} {p : Addr} {T : TypeId} {v : Value} {cs : List Value} (ht : oneB P T = true) (h : At p (v :: cs) w) : (loadVar T p).run P w = .ok v w := by
  obtain ⟨d, i, hd, hr, _, _⟩ := oneB_spec ht
  obtain ⟨b, o, rfl, h⟩ := h
  have h0 := h 0 v rfl
  have hagg : (isAgg T).run P w = .ok false w := by
    unfold isAgg
    rw [Sem.run_bind, run_underlying hd w]
    cases d <;> simp_all
  simp only [Nat.add_zero] at h0
  simp [loadVar, Sem.run_bind, hagg, load, Sem.run, h0]
theorem run_load_agg {P : Program} {w : World} {p : Addr} {T s : Nat} {cs : List Value} (ht : aggB P T s = true) (h : At p cs w) (hs : s ≤ cs.length) : (loadVar T p).run P w = .ok (.agg (cs.take s).toArray) w := by
  obtain ⟨d, i, hd, hr, hi, hsz⟩ := aggB_spec ht
  obtain ⟨b, o, rfl, h⟩ := h
  refine run_loadVar_mid w b o T (cs.take s) d (fun j v hj => h j v ?_) hd hr (by simp [hi, hsz]; omega)
  rw [List.getElem?_take] at hj; split at hj <;> simp_all

section ops
variable {P : Program} {σ : World} {n : Nat} {F : List Res} {e : Env} {dst : Option Tmp} {ty : TypeId} {pos : String} {after : Array Edge} {guard : Option (Nat × Bool)}

/-- An operation that only computes or reads. -/
theorem opt_run {o : Oper} {v : Value} (h : ∀ a w, Rel n e a → Own σ F w → (execOp a.eval o).run P w = .ok (.value v) w) : OpT P σ n F o e [] (Det v) := by
  intro Q K a w hr ho k
  unfold Oper.wp
  rw [h a w hr (by simpa [rs] using ho)]
  exact k v [] w ⟨rfl, rfl⟩ ho
theorem op_move {x : Operand} {v : Value} (hx : ev e x = some v) : OpT P σ n F ⟨dst, .move x, ty, pos, after, guard⟩ e [] (Det v) :=
  opt_run fun a w hr _ => by simp [execOp, hr.ev hx]
theorem op_assign {x : Operand} {v : Value} (hx : ev e x = some v) : OpT P σ n F ⟨dst, .assign x, ty, pos, after, guard⟩ e [] (Det v) :=
  opt_run fun a w hr _ => by simp [execOp, hr.ev hx]
theorem op_pick {c x y : Operand} {b : Bool} {u v : Value} (hc : ev e c = some (.bool b)) (hx : ev e x = some u) (hy : ev e y = some v) :
    OpT P σ n F ⟨dst, .pick c x y, ty, pos, after, guard⟩ e [] (Det (if b then u else v)) :=
  opt_run fun a w hr _ => by cases b <;> simp [execOp, hr.ev hc, hr.ev hx, hr.ev hy, asBool]
theorem op_pick_t {c x y : Operand} {u : Value} (hc : ev e c = some (.bool true)) (hx : ev e x = some u) : OpT P σ n F ⟨dst, .pick c x y, ty, pos, after, guard⟩ e [] (Det u) :=
  opt_run fun a w hr _ => by simp [execOp, hr.ev hc, hr.ev hx, asBool]
theorem op_pick_f {c x y : Operand} {v : Value} (hc : ev e c = some (.bool false)) (hy : ev e y = some v) : OpT P σ n F ⟨dst, .pick c x y, ty, pos, after, guard⟩ e [] (Det v) :=
  opt_run fun a w hr _ => by simp [execOp, hr.ev hc, hr.ev hy, asBool]

/-! numbers -/
theorem run_int {P : Program} {w : World} (op : BinOp) (t : TypeId) (x y : Operand) (k : IntKind) (a b : Int) (hop : (op matches .shl | .shr) = false) :
    (do eqGuard op t x y (.int k a) (.int k b); binOp op t (.int k a) (.int k b) : Sem Value).run P w = (binOp op t (.int k a) (.int k b)).run P w := by
  cases op <;> simp [eqGuard, Sem.run_bind]
theorem op_int {op : BinOp} {t t2 : TypeId} {x y : Operand} {k : IntKind} {a b : Int} {v : Value} (hx : ev e x = some (.int k a)) (hy : ev e y = some (.int k b))
    (h : ∀ w, (binOp op t (.int k a) (.int k b)).run P w = .ok v w) : OpT P σ n F ⟨dst, .binOp op t x y t2, ty, pos, after, guard⟩ e [] (Det v) :=
  opt_run fun A w hr _ => by
    have hg : (eqGuard op t x y (.int k a) (.int k b)).run P w = .ok () w := by cases op <;> simp [eqGuard]
    simp [execOp, hr.ev hx, hr.ev hy, Sem.run_bind, hg, h w]
theorem op_add {t t2 : TypeId} {x y : Operand} {k : IntKind} {a b : Int} (hx : ev e x = some (.int k a)) (hy : ev e y = some (.int k b)) :
    OpT P σ n F ⟨dst, .binOp .add t x y t2, ty, pos, after, guard⟩ e [] (Det (.int k (k.wrap (a + b)))) := op_int hx hy fun w => by simp [binOp, Op.intArith]
theorem op_sub {t t2 : TypeId} {x y : Operand} {k : IntKind} {a b : Int} (hx : ev e x = some (.int k a)) (hy : ev e y = some (.int k b)) :
    OpT P σ n F ⟨dst, .binOp .sub t x y t2, ty, pos, after, guard⟩ e [] (Det (.int k (k.wrap (a - b)))) := op_int hx hy fun w => by simp [binOp, Op.intArith]
theorem op_mul {t t2 : TypeId} {x y : Operand} {k : IntKind} {a b : Int} (hx : ev e x = some (.int k a)) (hy : ev e y = some (.int k b)) :
    OpT P σ n F ⟨dst, .binOp .mul t x y t2, ty, pos, after, guard⟩ e [] (Det (.int k (k.wrap (a * b)))) := op_int hx hy fun w => by simp [binOp, Op.intArith]
theorem wrap_i64 {z : Int} (h : -9223372036854775808 ≤ z ∧ z ≤ 9223372036854775807) : IntKind.i64.wrap z = z := by
  unfold IntKind.wrap; simp [IntKind.bits, IntKind.signed]; split <;> omega
theorem op_add' {t t2 : TypeId} {x y : Operand} {a b : Int} (hx : ev e x = some (.int .i64 a)) (hy : ev e y = some (.int .i64 b)) (h : -9223372036854775808 ≤ a + b ∧ a + b ≤ 9223372036854775807) :
    OpT P σ n F ⟨dst, .binOp .add t x y t2, ty, pos, after, guard⟩ e [] (Det (.int .i64 (a + b))) := by have := op_add (P := P) (σ := σ) (n := n) (F := F) (dst := dst) (t := t) (t2 := t2) (ty := ty) (pos := pos) (after := after) (guard := guard) hx hy; rwa [wrap_i64 h] at this
theorem op_sub' {t t2 : TypeId} {x y : Operand} {a b : Int} (hx : ev e x = some (.int .i64 a)) (hy : ev e y = some (.int .i64 b)) (h : -9223372036854775808 ≤ a - b ∧ a - b ≤ 9223372036854775807) :
    OpT P σ n F ⟨dst, .binOp .sub t x y t2, ty, pos, after, guard⟩ e [] (Det (.int .i64 (a - b))) := by have := op_sub (P := P) (σ := σ) (n := n) (F := F) (dst := dst) (t := t) (t2 := t2) (ty := ty) (pos := pos) (after := after) (guard := guard) hx hy; rwa [wrap_i64 h] at this
theorem op_mul' {t t2 : TypeId} {x y : Operand} {a b : Int} (hx : ev e x = some (.int .i64 a)) (hy : ev e y = some (.int .i64 b)) (h : -9223372036854775808 ≤ a * b ∧ a * b ≤ 9223372036854775807) :
    OpT P σ n F ⟨dst, .binOp .mul t x y t2, ty, pos, after, guard⟩ e [] (Det (.int .i64 (a * b))) := by have := op_mul (P := P) (σ := σ) (n := n) (F := F) (dst := dst) (t := t) (t2 := t2) (ty := ty) (pos := pos) (after := after) (guard := guard) hx hy; rwa [wrap_i64 h] at this
theorem op_lss {t t2 : TypeId} {x y : Operand} {k : IntKind} {a b : Int} (hx : ev e x = some (.int k a)) (hy : ev e y = some (.int k b)) :
    OpT P σ n F ⟨dst, .binOp .lss t x y t2, ty, pos, after, guard⟩ e [] (Det (.bool (decide (a < b)))) := op_int hx hy fun w => by simp [binOp, Op.intCmp]
theorem op_leq {t t2 : TypeId} {x y : Operand} {k : IntKind} {a b : Int} (hx : ev e x = some (.int k a)) (hy : ev e y = some (.int k b)) :
    OpT P σ n F ⟨dst, .binOp .leq t x y t2, ty, pos, after, guard⟩ e [] (Det (.bool (decide (a ≤ b)))) := op_int hx hy fun w => by simp [binOp, Op.intCmp]
theorem op_gtr {t t2 : TypeId} {x y : Operand} {k : IntKind} {a b : Int} (hx : ev e x = some (.int k a)) (hy : ev e y = some (.int k b)) :
    OpT P σ n F ⟨dst, .binOp .gtr t x y t2, ty, pos, after, guard⟩ e [] (Det (.bool (decide (a > b)))) := op_int hx hy fun w => by simp [binOp, Op.intCmp]
theorem op_geq {t t2 : TypeId} {x y : Operand} {k : IntKind} {a b : Int} (hx : ev e x = some (.int k a)) (hy : ev e y = some (.int k b)) :
    OpT P σ n F ⟨dst, .binOp .geq t x y t2, ty, pos, after, guard⟩ e [] (Det (.bool (decide (a ≥ b)))) := op_int hx hy fun w => by simp [binOp, Op.intCmp]
theorem op_eql {t t2 : TypeId} {x y : Operand} {k : IntKind} {a b : Int} (hx : ev e x = some (.int k a)) (hy : ev e y = some (.int k b)) :
    OpT P σ n F ⟨dst, .binOp .eql t x y t2, ty, pos, after, guard⟩ e [] (Det (.bool (decide (a = b)))) := op_int hx hy fun w => by simp [binOp, Op.intCmp]; rfl
theorem op_neq {t t2 : TypeId} {x y : Operand} {k : IntKind} {a b : Int} (hx : ev e x = some (.int k a)) (hy : ev e y = some (.int k b)) :
    OpT P σ n F ⟨dst, .binOp .neq t x y t2, ty, pos, after, guard⟩ e [] (Det (.bool (decide (a ≠ b)))) := op_int hx hy fun w => by simp [binOp, Op.intCmp]; rfl
theorem op_not {t : TypeId} {x : Operand} {b : Bool} (hx : ev e x = some (.bool b)) : OpT P σ n F ⟨dst, .unOp .not t x, ty, pos, after, guard⟩ e [] (Det (.bool (!b))) :=
  opt_run fun a w hr _ => by simp [execOp, hr.ev hx, Op.unary]
theorem op_not_d {t : TypeId} {x : Operand} {p : Prop} [Decidable p] (hx : ev e x = some (.bool (decide p))) : OpT P σ n F ⟨dst, .unOp .not t x, ty, pos, after, guard⟩ e [] (Det (.bool (decide (¬ p)))) :=
  opt_run fun a w hr _ => by simp [execOp, hr.ev hx, Op.unary]

/-! memory: reading -/
theorem op_load {T : TypeId} {x : Operand} {p : Addr} {v : Value} (hx : ev e x = some (.pointer (some p))) (h : Ent σ F (fun w => (loadVar T p).run P w = .ok v w)) :
    OpT P σ n F ⟨dst, .load T x, ty, pos, after, guard⟩ e [] (Det v) :=
  opt_run fun a w hr ho => by simp [execOp, hr.ev hx, Instr.loadAt, Instr.sureAddr, Sem.run_bind, h w ho]
theorem op_load1 {T : TypeId} {x : Operand} {p : Addr} {v : Value} {cs : List Value} (hx : ev e x = some (.pointer (some p))) (ht : oneB P T = true) (h : Ent σ F (At p (v :: cs))) :
    OpT P σ n F ⟨dst, .load T x, ty, pos, after, guard⟩ e [] (Det v) := op_load hx (h.mono fun w h => run_load_one ht h)
theorem op_loadA {T s : Nat} {x : Operand} {p : Addr} {cs : List Value} (hx : ev e x = some (.pointer (some p))) (ht : aggB P T s = true) (h : Ent σ F (At p cs)) (hs : s ≤ cs.length) :
    OpT P σ n F ⟨dst, .load T x, ty, pos, after, guard⟩ e [] (Det (.agg (cs.take s).toArray)) := op_load hx (h.mono fun w h => run_load_agg ht h hs)
theorem run_fieldAt {P : Program} {w : World} {T f off : Nat} {p : Addr} (h : fieldB P T f off = true) : (Instr.fieldAt T (.pointer (some p)) f).run P w = .ok (.pointer (some (p.add off))) w := by
  unfold fieldB at h
  split at h
  · rename_i fs hu
    split at h
    · rename_i fd hf
      split at h
      · rename_i i hi
        simp at h
        have hsz : (sizeOf fd.type).run P w = .ok i.size w := by simp [sizeOf, typeInfo, hi]
        simp [Instr.fieldAt, run_underlying hu, hf, Instr.sureAddr, fieldPlace, Sem.run_bind, hsz, h.2, h.1]
      · simp at h
    · simp at h
  · simp at h
theorem op_fieldAddr {T f off : Nat} {x : Operand} {p : Addr} (hx : ev e x = some (.pointer (some p))) (ht : fieldB P T f off = true) :
    OpT P σ n F ⟨dst, .fieldAddr T x f, ty, pos, after, guard⟩ e [] (Det (.pointer (some (p.add off)))) :=
  opt_run fun a w hr _ => by simp [execOp, hr.ev hx, Sem.run_bind, run_fieldAt ht]
theorem op_nilCheck {x : Operand} {p : Addr} (hx : ev e x = some (.pointer (some p))) : OpT P σ n F ⟨dst, .nilCheck x, ty, pos, after, guard⟩ e [] (Det (.pointer (some p))) :=
  opt_run fun a w hr _ => by simp [execOp, hr.ev hx]
theorem op_indexAddr {T E k : Nat} {x y : Operand} {v : Value} {xs : List (List Value)} {i : Nat} (hx : ev e x = some v) (hy : ev e y = some (.int .i64 i)) (ht : sliceB P T E k = true)
    (h : Ent σ F (slR k v xs)) (hi : i < xs.length) : OpT P σ n F ⟨dst, .indexAddr T x y, ty, pos, after, guard⟩ e [] (Det (.pointer (some (idxA v i k)))) :=
  opt_run fun a w hr ho => by
    obtain ⟨inf, hu, hinf, hsz⟩ := sliceB_spec ht
    obtain ⟨_, _, hv⟩ := h w ho
    rcases hv with ⟨_, _, _, rfl⟩ | ⟨b, o, cap, rfl, _, _⟩
    · simp at hi
    · have hs2 : (sizeOf E).run P w = .ok k w := by simp [sizeOf, typeInfo, hinf, hsz]
      simp [execOp, hr.ev hx, hr.ev hy, Instr.indexAt, asIntOf, Sem.run_bind, run_underlying hu, hi, hs2, idxA]
theorem op_len {T E k : Nat} {x : Operand} {v : Value} {xs : List (List Value)} {ats : TypeId} (hx : ev e x = some v) (ht : sliceB P T E k = true) (h : Ent σ F (slR k v xs)) (ha : ats = T := by rfl) :
    OpT P σ n F ⟨dst, .call ⟨.builtin .len, #[x], #[ats]⟩, ty, pos, after, guard⟩ e [] (Det (.int .i64 xs.length)) :=
  opt_run fun a w hr ho => by
    subst ha
    obtain ⟨inf, hu, hinf, hsz⟩ := sliceB_spec ht
    obtain ⟨a0, cap, rfl⟩ := (h w ho).len
    simp [execOp, resolve, hr.ev hx, invoke, builtin, Builtin.len_, run_underlying hu, Sem.run_bind, goInt]

/-! memory: new blocks, stores -/
theorem op_alloc {T : Nat} {z : Value} {l : Nat} (hz : (P.info? T).bind (·.zero) = some z) :
    OpT P σ n F ⟨dst, .alloc T, ty, pos, after, guard⟩ e [] (fun v ρ => ∃ b, v = .pointer (some ⟨b, 0, none⟩) ∧ ρ = [(l, cel b z.cells.toList T)]) := by
  intro Q K a w hr ho k
  unfold Oper.wp
  have : (execOp a.eval ⟨dst, .alloc T, ty, pos, after, guard⟩).run P w = .ok (.value (.pointer (some ⟨w.heap.size, 0, none⟩))) (w.alloc (.cells z.cells T)) := by
    cases hi : P.info? T with
    | none => simp [hi] at hz
    | some i => simp [hi] at hz; simp [execOp, Instr.alloc, zeroValue, typeInfo, hi, hz, Sem.run_bind, newVar, newRow]
  rw [this]
  exact k _ _ _ ⟨_, rfl, rfl⟩ (ho.alloc (by simp [cel, blk]; funext i; rfl))
theorem op_box {T : Nat} {x : Operand} {v : Value} {l : Nat} (hx : ev e x = some v) :
    OpT P σ n F ⟨dst, .box T x, ty, pos, after, guard⟩ e [] (fun u ρ => ∃ b, u = .pointer (some ⟨b, 0, none⟩) ∧ ρ = [(l, cel b v.cells.toList T)]) := by
  intro Q K a w hr ho k
  unfold Oper.wp
  have : (execOp a.eval ⟨dst, .box T x, ty, pos, after, guard⟩).run P w = .ok (.value (.pointer (some ⟨w.heap.size, 0, none⟩))) (w.alloc (.cells v.cells T)) := by
    simp [execOp, hr.ev hx, Instr.box, Sem.run_bind, newVar, newRow]
  rw [this]
  exact k _ _ _ ⟨_, rfl, rfl⟩ (ho.alloc (by simp [cel, blk]; funext i; rfl))
/-- The cells of c from o on are exchanged. -/
def setsL (c : List Value) : Nat → List Value → List Value
  | _, [] => c
  | o, v :: vs => setsL (c.set o v) (o + 1) vs
theorem setCells_heap : ∀ (vs : List Value) (w : World) (b o : Nat) (c : List Value) (T : TypeId) (fr : Nat × Nat), w.heap[b]? = some (.cells c.toArray T fr) →
    (w.setCells b o vs).heap[b]? = some (.cells (setsL c o vs).toArray T fr) ∧ (∀ i, i ≠ b → (w.setCells b o vs).heap[i]? = w.heap[i]?) ∧ (w.setCells b o vs).os = w.os ∧ (w.setCells b o vs).tape = w.tape ∧ (w.setCells b o vs).output = w.output
  | [], w, b, o, c, T, fr, h => ⟨h, fun _ _ => rfl, rfl, rfl, rfl⟩
  | v :: vs, w, b, o, c, T, fr, h => by
    have h1 : (w.setCell ⟨b, o, none⟩ v).heap[b]? = some (.cells (c.set o v).toArray T fr) := by
      simp only [World.setCell, Array.getElem?_modify, if_true, h]; simp
    have h2 : ∀ i, i ≠ b → (w.setCell ⟨b, o, none⟩ v).heap[i]? = w.heap[i]? := fun i hi => by
      simp only [World.setCell, Array.getElem?_modify]; rw [if_neg (by omega)]
    obtain ⟨a1, a2, a3, a4, a5⟩ := setCells_heap vs (w.setCell ⟨b, o, none⟩ v) b (o + 1) (c.set o v) T fr h1
    exact ⟨a1, fun i hi => (a2 i hi).trans (h2 i hi), a3, a4, a5⟩
theorem run_storeVar {P : Program} {w : World} {b o T sz : Nat} {v : Value} {c : List Value} {T' : TypeId} (hw : w.heap[b]? = some (.cells c.toArray T' (0, 0))) (hsz : (P.info? T).map (·.size) = some sz)
    (hv : v.cells.size = sz) (h1 : v.cells.all (·.oneCell') = true) (hin : o + sz ≤ c.length) : (storeVar T ⟨b, o, none⟩ v).run P w = .ok () (w.setCells b o v.cells.toList) := by
  have := run_storeCells_cells (P := P) b o v.cells.toList 0 w (fun j hj => by simp [World.cell?, hw]; simp at hj; omega) (fun j hj => by simp [World.frozen?, hw])
    (fun u hu => (Array.all_eq_true_iff_forall_mem.1 h1) u (by simpa using hu))
  cases hq : P.info? T with
  | none => simp [hq] at hsz
  | some i =>
    have hs : v.cells.size = i.size := by simp [hq] at hsz; omega
    simp only [Nat.add_zero] at this
    simp [storeVar, sizeOf, typeInfo, hq, hs, this]
theorem op_store {T sz : Nat} {x y : Operand} {b o : Nat} {v : Value} {c : List Value} {T' l : Nat} (hx : ev e x = some (.pointer (some ⟨b, o, none⟩))) (hy : ev e y = some v) (hsz : (P.info? T).map (·.size) = some sz)
    (hv : v.cells.size = sz) (h1 : v.cells.toList.all (·.oneCell') = true) (hin : o + sz ≤ c.length) :
    OpT P σ n F ⟨dst, .store T x y, ty, pos, after, guard⟩ e [(l, cel b c T')] (fun u ρ => u = undef ∧ ρ = [(l, cel b (setsL c o v.cells.toList) T')]) := by
  intro Q K a w hr ho k
  have hw : w.heap[b]? = some (.cells c.toArray T' (0, 0)) := by
    obtain ⟨m, hm, hs⟩ := ho.mem_of (List.mem_cons_self)
    exact says_blk _ _ m w hm hs
  obtain ⟨a1, a2, a3, a4, a5⟩ := setCells_heap v.cells.toList w b o c T' (0, 0) hw
  unfold Oper.wp
  have : (execOp a.eval ⟨dst, .store T x y, ty, pos, after, guard⟩).run P w = .ok .skip (w.setCells b o v.cells.toList) := by
    simp [execOp, hr.ev hx, hr.ev hy, Instr.storeAt, Instr.sureAddr, Sem.run_bind, run_storeVar hw hsz hv (by simpa using h1) hin]
  rw [this]
  refine k undef _ _ ⟨rfl, rfl⟩ ?_
  refine Own.swap (b := b) (o' := .cells (setsL c o v.cells.toList).toArray T' (0, 0)) ho (fun m hm => by have hm' : m = single b (.cells c.toArray T' (0, 0)) := hm; subst hm'; exact ⟨_, by simp [single]; rfl⟩) (by simp [cel, blk]; rfl) a3 a4 a5 a1 (fun i hi o' h => by rw [a2 i hi]; exact h)

/-! calls -/
theorem op_call {f : Nat} {fn : Func} {xs : Array Operand} {ats : Array TypeId} {vs : List Value} {R : RL} {S : Value → RL → Prop} (hf : P.funcs[f]? = some fn) (hb : fn.body.isSome = true) (hnm : (fn.name == "runtime.NumGoroutine") = false)
    (hx : evs e xs.toList = some vs) (h : ∀ w, Own σ (rs R ++ F) w → Calls P f vs.toArray w fun ex w' => ∃ v ρ, ex = .returned v ∧ S v ρ ∧ Own σ (rs ρ ++ F) w') :
    OpT P σ n F ⟨dst, .call ⟨.value (.func f), xs, ats⟩, ty, pos, after, guard⟩ e R S := by
  intro Q K a w hr ho k
  unfold Oper.wp
  have hargs : xs.map a.eval = vs.toArray := by
    exact Array.ext' (by simpa using hr.evs hx)
  have : (execOp a.eval ⟨dst, .call ⟨.value (.func f), xs, ats⟩, ty, pos, after, guard⟩).run P w = .ok (.enter f vs.toArray) w := by
    have hnm' : ¬ fn.name = "runtime.NumGoroutine" := by simpa using hnm
    cases hbb : fn.body with
    | none => simp [hbb] at hb
    | some c => simp [execOp, resolve, Act.eval, Deferred.ofValue, hargs, Sem.run_bind, invoke, callFunc, hf, hnm', hbb]
  rw [this]
  refine (h w ho).mono ?_
  rintro ex w' ⟨v, ρ, rfl, hS, ho'⟩
  exact k v ρ w' hS ho'
/-- A call of a function value. -/
theorem op_callv {g : Operand} {f : Nat} {fn : Func} {xs : Array Operand} {ats : Array TypeId} {vs : List Value} {first cap : Array Value} {R : RL} {S : Value → RL → Prop} (hf : P.funcs[f]? = some fn) (hb : fn.body.isSome = true) (hnm : (fn.name == "runtime.NumGoroutine") = false)
    (hg : ev e g = some (.func (.func f) first cap)) (hx : evs e xs.toList = some vs) (h : ∀ w, Own σ (rs R ++ F) w → Calls P f (first ++ vs.toArray ++ cap) w fun ex w' => ∃ v ρ, ex = .returned v ∧ S v ρ ∧ Own σ (rs ρ ++ F) w') :
    OpT P σ n F ⟨dst, .call ⟨.value g, xs, ats⟩, ty, pos, after, guard⟩ e R S := by
  intro Q K a w hr ho k
  unfold Oper.wp
  have hargs : xs.map a.eval = vs.toArray := by
    exact Array.ext' (by simpa using hr.evs hx)
  have : (execOp a.eval ⟨dst, .call ⟨.value g, xs, ats⟩, ty, pos, after, guard⟩).run P w = .ok (.enter f (first ++ vs.toArray ++ cap)) w := by
    have hnm' : ¬ fn.name = "runtime.NumGoroutine" := by simpa using hnm
    cases hbb : fn.body with
    | none => simp [hbb] at hb
    | some c => simp [execOp, resolve, hr.ev hg, Deferred.ofValue, hargs, Sem.run_bind, invoke, callFunc, hf, hnm', hbb]
  rw [this]
  refine (h w ho).mono ?_
  rintro ex w' ⟨v, ρ, rfl, hS, ho'⟩
  exact k v ρ w' hS ho'
theorem op_makeFunc {f : Nat} {first cap : Array Operand} {fs cs : List Value} (h1 : evs e first.toList = some fs) (h2 : evs e cap.toList = some cs) :
    OpT P σ n F ⟨dst, .makeFunc (.func f) first cap, ty, pos, after, guard⟩ e [] (Det (.func (.func f) fs.toArray cs.toArray)) :=
  opt_run fun a w hr _ => by
    have e1 : first.map a.eval = fs.toArray := Array.ext' (by simpa using hr.evs h1)
    have e2 : cap.map a.eval = cs.toArray := Array.ext' (by simpa using hr.evs h2)
    simp [execOp, Instr.makeFunc, e1, e2, Sem.run_bind]
theorem op_extract {x : Operand} {vs : Array Value} {i : Nat} {v : Value} (hx : ev e x = some (.tuple vs)) (hi : vs[i]? = some v) : OpT P σ n F ⟨dst, .extract x i, ty, pos, after, guard⟩ e [] (Det v) :=
  opt_run fun a w hr _ => by simp [execOp, hr.ev hx, Instr.extract, hi, Sem.run_bind]
theorem op_min {x y : Operand} {k : IntKind} {a b : Int} {ats : Array TypeId} (hx : ev e x = some (.int k a)) (hy : ev e y = some (.int k b)) :
    OpT P σ n F ⟨dst, .call ⟨.builtin .min, #[x, y], ats⟩, ty, pos, after, guard⟩ e [] (Det (.int k (min a b))) :=
  opt_run fun A w hr _ => by
    have : (if b < a then b else a) = min a b := by rw [Int.min_def]; split <;> split <;> omega
    simp [execOp, resolve, hr.ev hx, hr.ev hy, invoke, builtin, Builtin.min_, Builtin.min2, Sem.run_bind, this]
theorem op_max {x y : Operand} {k : IntKind} {a b : Int} {ats : Array TypeId} (hx : ev e x = some (.int k a)) (hy : ev e y = some (.int k b)) :
    OpT P σ n F ⟨dst, .call ⟨.builtin .max, #[x, y], ats⟩, ty, pos, after, guard⟩ e [] (Det (.int k (max a b))) :=
  opt_run fun A w hr _ => by
    have : (if b > a then b else a) = max a b := by rw [Int.max_def]; split <;> split <;> omega
    simp [execOp, resolve, hr.ev hx, hr.ev hy, invoke, builtin, Builtin.max_, Builtin.max2, Sem.run_bind, this]
end ops
end Go.SL
