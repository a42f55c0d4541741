/- Slicing, for the symbolic logic of Sl0. Conditions: none. -/
import Derived.Test.YtecmigildpkigaaGreatSl5
namespace Go.SL
open Go.RowKit
set_option linter.unusedSimpArgs false
set_option linter.unusedVariables false
/-- Where a part of a slice begins. -/
def sub (a : Option Addr) (c lo k : Nat) : Option Addr := if c = lo then a else a.map (·.add (lo * k))
section
variable {P : Program} {σ : World} {n : Nat} {F : List Res} {e : Env} {R : RL} {dst : Option Tmp} {ty : TypeId} {pos : String} {after : Array Edge} {guard : Option (Nat × Bool)}
theorem Sl.sub {α : Type} {enc : α → List Value} {k : Nat} {a : Option Addr} {m c : Nat} {l : List α} (h : Sl σ F enc k (.slice a m c) l) {lo hi : Nat} (h1 : lo ≤ hi) (h2 : hi ≤ l.length) :
    Sl σ F enc k (.slice (SL.sub a c lo k) (hi - lo) (c - lo)) ((l.take hi).drop lo) := by
  have hlen : ((l.take hi).drop lo).length = hi - lo := by rw [List.length_drop, List.length_take]; omega
  refine ⟨h.ent.mono fun w hw => ?_, by rw [hlen]; have := h.le; omega⟩
  obtain ⟨hk, hl, hv⟩ := hw
  refine ⟨fun c hc => hk c ?_, by rw [List.length_map, hlen]; have := h.le; omega, ?_⟩
  · obtain ⟨x, hx, rfl⟩ := List.mem_map.1 hc
    exact List.mem_map.2 ⟨x, List.mem_of_mem_take (List.mem_of_mem_drop hx), rfl⟩
  · rcases hv with ⟨a0, c0, hv, hl0⟩ | ⟨b, o, cap, hv, hle, hr⟩
    · simp at hv; obtain ⟨rfl, rfl, rfl⟩ := hv
      have : l = [] := by simpa using hl0
      subst this
      simp at h2; subst h2
      obtain rfl : lo = 0 := by omega
      exact .inl ⟨SL.sub a c 0 k, c - 0, rfl, by simp⟩
    · simp at hv; obtain ⟨rfl, rfl, rfl⟩ := hv
      simp only [List.length_map] at hle
      refine .inr ?_
      by_cases hc : c = lo
      · subst hc
        refine ⟨b, o, 0, by simp [SL.sub]; omega, by simp; omega, fun j v hj => ?_⟩
        have h0 : (l.take hi).drop c = [] := by apply List.drop_eq_nil_of_le; rw [List.length_take]; omega
        rw [h0] at hj; simp at hj
      · refine ⟨b, o + lo * k, c - lo, by simp [SL.sub, hc, Addr.add_mid]; omega, by rw [List.length_map, hlen]; omega, fun j v hj => ?_⟩
        rw [Nat.add_assoc]
        refine hr _ v ?_
        have h3 := flatten_drop_uniform (xs := l.map enc) (i := lo) hk
        have h4 : ((l.map enc).flatten.drop (lo * k))[j]? = some v := by
          rw [h3, ← List.map_drop]
          have h5 : l.drop lo = (l.take hi).drop lo ++ l.drop hi := by
            have h6 := List.take_append_drop hi l
            have h7 : (l.take hi ++ l.drop hi).drop lo = (l.take hi).drop lo ++ l.drop hi := by
              rw [List.drop_append_of_le_length (by rw [List.length_take]; omega)]
            rw [h6] at h7; exact h7
          rw [h5, List.map_append, List.flatten_append, List.getElem?_append_left (by
            rcases Nat.lt_or_ge j ((l.take hi).drop lo |>.map enc).flatten.length with h | h
            · exact h
            · rw [List.getElem?_eq_none h] at hj; simp at hj)]
          exact hj
        simpa using h4
theorem op_slice {α : Type} {enc : α → List Value} {T E k lo hi : Nat} {x y z : Operand} {a : Option Addr} {m c : Nat} {l : List α} (hx : ev e x = some (.slice a m c)) (hy : ev e y = some (.int .i64 lo)) (hz : ev e z = some (.int .i64 hi)) (hT : sliceB P T E k = true)
    (h : Sl σ F enc k (.slice a m c) l) (h1 : lo ≤ hi) (h2 : hi ≤ l.length) : OpT P σ n F ⟨dst, .slice T x (some y) (some z) none, ty, pos, after, guard⟩ e [] (Det (.slice (SL.sub a c lo k) (hi - lo) (c - lo))) :=
  opt_run fun A w hr ho => by
    obtain ⟨i, hu, hi', hsz⟩ := sliceB_spec hT
    obtain ⟨hm, hn, hc⟩ := h.shape w ho
    have h3 : hi ≤ c := by omega
    have hs2 : (sizeOf E).run P w = .ok k w := by simp [sizeOf, typeInfo, hi', hsz]
    simp [execOp, hr.ev hx, hr.ev hy, hr.ev hz, Instr.sliceAt, Instr.slice, run_underlying hu, Sem.run_bind, Instr.sliceBounds, Instr.sliceBound, asIntOf, h1, h3, hs2, SL.sub]
theorem op_sliceL {α : Type} {enc : α → List Value} {T E k lo : Nat} {x y : Operand} {a : Option Addr} {m c : Nat} {l : List α} (hx : ev e x = some (.slice a m c)) (hy : ev e y = some (.int .i64 lo)) (hT : sliceB P T E k = true)
    (h : Sl σ F enc k (.slice a m c) l) (h1 : lo ≤ l.length) : OpT P σ n F ⟨dst, .slice T x (some y) none none, ty, pos, after, guard⟩ e [] (Det (.slice (SL.sub a c lo k) (l.length - lo) (c - lo))) :=
  opt_run fun A w hr ho => by
    obtain ⟨i, hu, hi', hsz⟩ := sliceB_spec hT
    obtain ⟨rfl, hn, hc⟩ := h.shape w ho
    have h3 : lo ≤ c := by omega
    have hs2 : (sizeOf E).run P w = .ok k w := by simp [sizeOf, typeInfo, hi', hsz]
    simp [execOp, hr.ev hx, hr.ev hy, Instr.sliceAt, Instr.slice, run_underlying hu, Sem.run_bind, Instr.sliceBounds, Instr.sliceBound, asIntOf, h1, h3, hs2, SL.sub]
theorem op_sliceR {α : Type} {enc : α → List Value} {T E k hi : Nat} {x z : Operand} {a : Option Addr} {m c : Nat} {l : List α} (hx : ev e x = some (.slice a m c)) (hz : ev e z = some (.int .i64 hi)) (hT : sliceB P T E k = true)
    (h : Sl σ F enc k (.slice a m c) l) (h2 : hi ≤ l.length) : OpT P σ n F ⟨dst, .slice T x none (some z) none, ty, pos, after, guard⟩ e [] (Det (.slice (SL.sub a c 0 k) (hi - 0) (c - 0))) :=
  opt_run fun A w hr ho => by
    obtain ⟨i, hu, hi', hsz⟩ := sliceB_spec hT
    obtain ⟨hm, hn, hc⟩ := h.shape w ho
    have h3 : hi ≤ c := by omega
    have hs2 : (sizeOf E).run P w = .ok k w := by simp [sizeOf, typeInfo, hi', hsz]
    simp [execOp, hr.ev hx, hr.ev hz, Instr.sliceAt, Instr.slice, run_underlying hu, Sem.run_bind, Instr.sliceBounds, Instr.sliceBound, asIntOf, h3, hs2, SL.sub]
/-! strings -/
theorem op_sliceS {T lo hi : Nat} {x y z : Operand} {s : ByteArray} (hx : ev e x = some (.string s)) (hy : ev e y = some (.int .i64 lo)) (hz : ev e z = some (.int .i64 hi)) (hu : P.underlying T = some .string) (h1 : lo ≤ hi) (h2 : hi ≤ s.size) :
    OpT P σ n F ⟨dst, .slice T x (some y) (some z) none, ty, pos, after, guard⟩ e [] (Det (.string (s.extract lo hi))) :=
  opt_run fun A w hr ho => by
    simp [execOp, hr.ev hx, hr.ev hy, hr.ev hz, Instr.sliceAt, Instr.slice, run_underlying hu, Sem.run_bind, Instr.sliceBounds, Instr.sliceBound, asIntOf, h1, h2]
theorem op_sliceSL {T lo : Nat} {x y : Operand} {s : ByteArray} (hx : ev e x = some (.string s)) (hy : ev e y = some (.int .i64 lo)) (hu : P.underlying T = some .string) (h1 : lo ≤ s.size) :
    OpT P σ n F ⟨dst, .slice T x (some y) none none, ty, pos, after, guard⟩ e [] (Det (.string (s.extract lo s.size))) :=
  opt_run fun A w hr ho => by
    simp [execOp, hr.ev hx, hr.ev hy, Instr.sliceAt, Instr.slice, run_underlying hu, Sem.run_bind, Instr.sliceBounds, Instr.sliceBound, asIntOf, h1]
theorem op_sliceSR {T hi : Nat} {x z : Operand} {s : ByteArray} (hx : ev e x = some (.string s)) (hz : ev e z = some (.int .i64 hi)) (hu : P.underlying T = some .string) (h2 : hi ≤ s.size) :
    OpT P σ n F ⟨dst, .slice T x none (some z) none, ty, pos, after, guard⟩ e [] (Det (.string (s.extract 0 hi))) :=
  opt_run fun A w hr ho => by
    simp [execOp, hr.ev hx, hr.ev hz, Instr.sliceAt, Instr.slice, run_underlying hu, Sem.run_bind, Instr.sliceBounds, Instr.sliceBound, asIntOf, h2]
end
/-! ### Cuts -/
theorem lk_keepE {e1 e : Env} : ∀ {L : List Nat} {i : Nat} {v : Value}, L.map (lk e1) = L.map (lk e) → lk (keepE e L) i = some v → lk e1 i = some v
  | [], i, v, _, h => by simp [keepE, lk] at h
  | d :: L, i, v, hX, h => by
    simp only [List.map_cons, List.cons.injEq] at hX
    simp only [keepE] at h
    cases hd : lk e d with
    | none => rw [hd] at h; exact lk_keepE hX.2 h
    | some u =>
      rw [hd] at h
      simp only [lk] at h
      cases hb : Nat.beq d i with
      | true => rw [hb] at h; simp at h; subst h; rw [← Nat.eq_of_beq_eq_true hb, hX.1, hd]
      | false => rw [hb] at h; simp at h; exact lk_keepE hX.2 h
section
variable {P : Program} {σ : World} {n : Nat} {F : List Res} {e : Env} {R : RL} {ops : Array Oper} {Q : Exit → Act → World → Prop} {K : Act → World → Prop} {rest : List Oper}
/-- What stands behind is told by the slots of E and L alone. -/
theorem w_cut {c : Code} (E : Env) (L : List Nat) (h : ∀ K', St σ n K' (E ++ keepE e L) R F → W P σ n c (Exit.then K' Q) e R F) (k : St σ n K (E ++ keepE e L) R F) : W P σ n c (Exit.then K Q) e R F := h K k
theorem w_cutR {c : Code} (E : Env) (L : List Nat) (R' : RL) (h : ∀ K', St σ n K' (E ++ keepE e L) R' F → W P σ n c (Exit.then K' Q) e R F) (k : St σ n K (E ++ keepE e L) R' F) : W P σ n c (Exit.then K Q) e R F := h K k
/-- .. and where a ghost x is left. -/
theorem w_cutX {c : Code} {X : Type} (φ : X → Prop) (E : X → Env) (L : List Nat) (R' : X → RL) (h : ∀ K', (∀ x, φ x → St σ n K' (E x ++ keepE e L) (R' x) F) → W P σ n c (Exit.then K' Q) e R F) (k : ∀ x, φ x → St σ n K (E x ++ keepE e L) (R' x) F) : W P σ n c (Exit.then K Q) e R F := h K k
theorem st_to {K : Act → World → Prop} {e' : Env} {R' A B : RL} {L : List Nat} (h : St σ n K e' R' F) (hs : Sube e e') (ht : takeL R L = some (A, B)) (hA : rs A = rs R') : St σ n K e R F := fun a w hr ho => h a w (hr.sub hs) (hA ▸ ho.keep ht)
theorem cut_done {E e1 : Env} {L L' : List Nat} {R' A B : RL} (h : St σ n K (E ++ keepE e L) R' F) (hE : ∀ p ∈ E, lk e1 p.1 = some p.2) (hX : L.map (lk e1) = L.map (lk e)) (ht : takeL R L' = some (A, B)) (hA : rs A = rs R') : St σ n K e1 R F := by
  refine st_to h (fun i v hi => ?_) ht hA
  have key : ∀ (E : Env), (∀ p ∈ E, lk e1 p.1 = some p.2) → (lk (E ++ keepE e L) i = some v) → lk e1 i = some v := by
    intro E
    induction E with
    | nil => intro _ h; exact lk_keepE hX h
    | cons p E ih =>
      intro hE h
      obtain ⟨j, u⟩ := p
      simp only [List.cons_append, lk] at h ⊢
      cases hb : Nat.beq j i with
      | true => rw [hb] at h; simp at h; subst h; rw [← Nat.eq_of_beq_eq_true hb]; exact hE (j, u) (by simp)
      | false => rw [hb] at h; simp at h; exact ih (fun p hp => hE p (by simp [hp])) h
  exact key E hE hi
theorem cut_done1 {e1 : Env} {L : List Nat} (L' : List Nat) {R' A B : RL} {d : Nat} {b : Bool} {p : Prop} [Decidable p] (h : St σ n K ([(d, .bool (decide p))] ++ keepE e L) R' F) (h1 : lk e1 d = some (.bool b)) (hb : b = decide p) (hX : L.map (lk e1) = L.map (lk e)) (ht : takeL R L' = some (A, B)) (hA : rs A = rs R') : St σ n K e1 R F :=
  cut_done h (fun q hq => by simp at hq; subst hq; rw [h1, hb]) hX ht hA
theorem wl_gsplit {t : Nat} {p : Prop} [Decidable p] (h : lk e t = some (.bool (decide p))) (h1 : p → WL P σ n ops Q K rest ((t, .bool true) :: e) R F) (h2 : ¬ p → WL P σ n ops Q K rest ((t, .bool false) :: e) R F) : WL P σ n ops Q K rest e R F := by
  by_cases hp : p
  · exact wl_sub (Sube.cons (by rw [h, decide_eq_true hp]) (Sube.refl e)) (h1 hp)
  · exact wl_sub (Sube.cons (by rw [h, decide_eq_false hp]) (Sube.refl e)) (h2 hp)
theorem wl_gsplitB {t : Nat} {b : Bool} (h : lk e t = some (.bool b)) (h1 : b = true → WL P σ n ops Q K rest ((t, .bool true) :: e) R F) (h2 : b = false → WL P σ n ops Q K rest ((t, .bool false) :: e) R F) : WL P σ n ops Q K rest e R F := by
  cases b with
  | true => exact wl_sub (Sube.cons h (Sube.refl e)) (h1 rfl)
  | false => exact wl_sub (Sube.cons h (Sube.refl e)) (h2 rfl)
variable {dst : Option Tmp} {ty : TypeId} {pos : String} {after : Array Edge} {guard : Option (Nat × Bool)}
theorem op_neg {t : TypeId} {x : Operand} {a : Int} (hx : ev e x = some (.int .i64 a)) (h : -9223372036854775807 ≤ a ∧ a ≤ 9223372036854775807) : OpT P σ n F ⟨dst, .unOp .neg t x, ty, pos, after, guard⟩ e [] (Det (.int .i64 (-a))) :=
  opt_run fun A w hr _ => by
    have : IntKind.i64.wrap (0 - a) = -a := by rw [wrap_i64 ⟨by omega, by omega⟩]; omega
    have h2 : (Op.unary .neg (.int .i64 a)).run P w = .ok (.int .i64 (-a)) w := by
      show (Op.intArith .sub .i64 0 a).run P w = _
      simp only [Op.intArith, this]; rfl
    simp [execOp, hr.ev hx, h2, Sem.run_bind]
end
end Go.SL
