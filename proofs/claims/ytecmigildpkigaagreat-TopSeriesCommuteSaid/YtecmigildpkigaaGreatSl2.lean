/- Functions, results, append and slices for the symbolic logic of Sl0 and Sl1. Conditions: none. -/
import Derived.Test.YtecmigildpkigaaGreatSl1
namespace Go.SL
open Go.RowKit
set_option linter.unusedSimpArgs false
set_option linter.unusedVariables false

/-! ### Functions -/
def argE : Nat → List Value → Env
  | _, [] => []
  | i, v :: vs => (i, v) :: argE (i + 1) vs
theorem lk_argE : ∀ (vs : List Value) (k i : Nat) (v : Value), lk (argE k vs) i = some v → ∃ j, i = k + j ∧ vs[j]? = some v
  | [], _, _, _, h => by simp [argE, lk] at h
  | u :: vs, k, i, v, h => by
    simp only [argE, lk] at h
    cases hb : Nat.beq k i with
    | true => rw [hb] at h; simp at h; exact ⟨0, by have := Nat.eq_of_beq_eq_true hb; omega, by simp [h]⟩
    | false =>
      rw [hb] at h; simp at h
      obtain ⟨j, h1, h2⟩ := lk_argE vs (k + 1) i v h
      exact ⟨j + 1, by omega, by simpa using h2⟩
/-- What a call does: from R beside the frame F to a value and resources. -/
def FnT (P : Program) (σ : World) (F : List Res) (f : Nat) (args : List Value) (R : RL) (S : Value → RL → Prop) : Prop :=
  ∀ w, Own σ (rs R ++ F) w → Calls P f args.toArray w fun ex w' => ∃ v ρ, ex = .returned v ∧ S v ρ ∧ Own σ (rs ρ ++ F) w'
/-- The postcondition of a body. -/
def Post (P : Program) (σ : World) (F : List Res) (fn : Func) (S : Value → RL → Prop) : Exit → Act → World → Prop :=
  bodyPost P fn fun ex w' => ∃ v ρ, ex = .returned v ∧ S v ρ ∧ Own σ (rs ρ ++ F) w'
theorem fn_of {P : Program} {σ : World} {F : List Res} {f : Nat} {fn : Func} {c : Code} {args : List Value} {R : RL} {S : Value → RL → Prop} (n : Nat)
    (hf : P.funcs[f]? = some fn) (hb : fn.body = some c) (hn : fn.ntmps = n) (hl : Nat.ble args.length n = true) (h : W P σ n c (Post P σ F fn S) (argE 0 args) R F) : FnT P σ F f args R S := by
  intro w ho
  refine calls_of_wp hf hb (h _ w ?_ ho)
  have hl' : args.length ≤ n := by simpa using hl
  refine ⟨by simp [hn]; omega, fun i v hi => ?_, rfl⟩
  obtain ⟨j, h1, h2⟩ := lk_argE args 0 i v hi
  obtain rfl : i = j := by omega
  obtain ⟨hlt, h3⟩ := List.getElem?_eq_some_iff.1 h2
  simp [Array.getD_eq_getD_getElem?, Array.getElem?_append, hlt, h3]
theorem FnT.mono {P : Program} {σ : World} {F : List Res} {f : Nat} {args : List Value} {R : RL} {S S' : Value → RL → Prop} (h : FnT P σ F f args R S) (hs : ∀ v ρ, S v ρ → S' v ρ) : FnT P σ F f args R S' :=
  fun w ho => (h w ho).mono fun _ _ ⟨v, ρ, h1, h2, h3⟩ => ⟨v, ρ, h1, hs _ _ h2, h3⟩
/-- A result's place holds v. -/
def rv (P : Program) (σ : World) (F : List Res) (e : Env) : ResultVar → Value → Prop
  | .tmp t, v => lk e t = some v
  | .cell t T, v => ∃ p, lk e t = some (.pointer (some p)) ∧ Ent σ F (fun w => (loadVar T p).run P w = .ok v w)
def rvl (P : Program) (σ : World) (F : List Res) (e : Env) : List ResultVar → List Value → Prop
  | [], [] => True
  | r :: rs, v :: vs => rv P σ F e r v ∧ rvl P σ F e rs vs
  | _, _ => False
def retv : List Value → Value
  | [v] => v
  | vs => .tuple vs.toArray
def resF (tmps : Array Value) : ResultVar → Sem Value
  | .tmp t => pure (tmps.getD t undef)
  | .cell a t => asAddr (tmps.getD a undef) >>= fun p => loadVar t p
theorem results_eq (fn : Func) (tmps : Array Value) : results fn tmps = fn.results.mapM (resF tmps) >>= fun vs => pure (if h : vs.size = 1 then vs[0] else .tuple vs) := by
  unfold results
  congr 1
theorem run_results {P : Program} {σ : World} {F : List Res} {e : Env} {n : Nat} {a : Act} {w : World} (hr : Rel n e a) (ho : Own σ F w) : ∀ {rvs : List ResultVar} {vs : List Value}, rvl P σ F e rvs vs →
    (rvs.mapM (resF a.tmps)).run P w = .ok vs w
  | [], [], _ => by simp
  | .tmp t :: rvs, v :: vs, h => by
    have h1 := hr.get t v h.1
    have h2 := run_results hr ho h.2
    simp only [List.mapM_cons, Sem.run_bind, resF, h1, Sem.run_pure, Result.andThen_ok, h2]
  | .cell t T :: rvs, v :: vs, h => by
    obtain ⟨⟨p, hp, hl⟩, h2⟩ := h
    have h1 := hr.get t _ hp
    have h2 := run_results hr ho h2
    simp only [List.mapM_cons, Sem.run_bind, resF, h1, asAddr, Sem.run_pure, Result.andThen_ok, hl w ho, h2]
  | _ :: _, [], h => h.elim
  | [], _ :: _, h => h.elim
theorem run_results' {P : Program} {σ : World} {F : List Res} {e : Env} {n : Nat} {a : Act} {w : World} {fn : Func} (hr : Rel n e a) (ho : Own σ F w) {rvs : List ResultVar} {vs : List Value} (hres : fn.results = rvs.toArray) (h : rvl P σ F e rvs vs) :
    (results fn a.tmps).run P w = .ok (retv vs) w := by
  have h1 := run_results hr ho h
  rw [results_eq, hres, Sem.run_bind]
  have h2 : (rvs.toArray.mapM (resF a.tmps)).run P w = .ok vs.toArray w := by
    rw [List.mapM_toArray]
    have : (List.toArray <$> rvs.mapM (resF a.tmps) : Sem (Array Value)) = (rvs.mapM (resF a.tmps) >>= fun l => pure l.toArray) := rfl
    rw [this, Sem.run_bind, h1]
    rfl
  rw [h2]
  simp only [Result.andThen_ok]
  match vs with
  | [] => rfl
  | [v] => rfl
  | _ :: _ :: _ => rfl
section
variable {P : Program} {σ : World} {n : Nat} {F : List Res} {fn : Func} {S : Value → RL → Prop} {e : Env} {R A B : RL}
theorem st_ret (L : List Nat) {rvs : List ResultVar} {vs : List Value} (hres : fn.results = rvs.toArray) (hv : rvl P σ (rs R ++ F) e rvs vs) (ht : takeL R L = some (A, B)) (hS : ∃ A', rs A = rs A' ∧ S (retv vs) A') : St σ n (Post P σ F fn S .ret) e R F := by
  intro a w hr ho
  obtain ⟨A', hA, hS⟩ := hS
  exact ⟨hr.defers, _, run_results' hr ho hres hv, _, A', rfl, hS, hA ▸ ho.keep ht⟩
theorem st_end (L : List Nat) {rvs : List ResultVar} {vs : List Value} (hres : fn.results = rvs.toArray) (hv : rvl P σ (rs R ++ F) e rvs vs) (ht : takeL R L = some (A, B)) (hS : ∃ A', rs A = rs A' ∧ S (retv vs) A') : St σ n (Post P σ F fn S .normal) e R F := by
  intro a w hr ho
  obtain ⟨A', hA, hS⟩ := hS
  exact ⟨hr.defers, _, run_results' hr ho hres hv, _, A', rfl, hS, hA ▸ ho.keep ht⟩
/-- A call of a function whose contract is known. -/
theorem op_fn {dst : Option Tmp} {ty : TypeId} {pos : String} {after : Array Edge} {guard : Option (Nat × Bool)} {f : Nat} {xs : Array Operand} {ats : Array TypeId} {vs : List Value} (hf : P.funcs[f]? = some fn) (hb : fn.body.isSome = true) (hnm : (fn.name == "runtime.NumGoroutine") = false)
    (hx : evs e xs.toList = some vs) (h : FnT P σ F f vs R S) : OpT P σ n F ⟨dst, .call ⟨.value (.func f), xs, ats⟩, ty, pos, after, guard⟩ e R S := op_call hf hb hnm hx h
theorem op_fnv {dst : Option Tmp} {ty : TypeId} {pos : String} {after : Array Edge} {guard : Option (Nat × Bool)} {g : Operand} {f : Nat} {xs : Array Operand} {ats : Array TypeId} {vs fs cs : List Value} (hf : P.funcs[f]? = some fn) (hb : fn.body.isSome = true) (hnm : (fn.name == "runtime.NumGoroutine") = false)
    (hg : ev e g = some (.func (.func f) fs.toArray cs.toArray)) (hx : evs e xs.toList = some vs) (h : FnT P σ F f (fs ++ vs ++ cs) R S) : OpT P σ n F ⟨dst, .call ⟨.value g, xs, ats⟩, ty, pos, after, guard⟩ e R S :=
  op_callv hf hb hnm hg hx fun w ho => by simpa using h w ho
end

/-! ### Exits through the layers -/
section
variable {P : Program} {σ : World} {n : Nat} {F : List Res} {e : Env} {R A B : RL} {K : Act → World → Prop} {Q : Exit → Act → World → Prop} {id id' : Nat}
theorem st_te (h : St σ n (Q (.exit id)) e R F) : St σ n (Exit.then K Q (.exit id)) e R F := h
theorem st_tr (h : St σ n (Q .ret) e R F) : St σ n (Exit.then K Q .ret) e R F := h
theorem st_tn (h : St σ n K e R F) : St σ n (Exit.then K Q .normal) e R F := h
theorem st_bn (h : St σ n (Q .normal) e R F) : St σ n (Exit.inBlock id Q .normal) e R F := h
theorem st_br (h : St σ n (Q .ret) e R F) : St σ n (Exit.inBlock id Q .ret) e R F := h
theorem st_be (h : St σ n (Q .normal) e R F) : St σ n (Exit.inBlock id Q (.exit id)) e R F := st_inblock h
theorem st_bne (hne : Nat.beq id' id = false) (h : St σ n (Q (.exit id')) e R F) : St σ n (Exit.inBlock id Q (.exit id')) e R F := st_inblock_ne hne h
/-- The next round of a loop. -/
theorem st_round {X : Type} {φ : X → Prop} {E : X → Env} {RR : X → RL} {μ : X → Nat} {x : X} (x' : X) (L : List Nat) (h1 : φ x') (h2 : μ x' < μ x) (h3 : Sube e (E x')) (h4 : takeL R L = some (A, B)) (h5 : rs A = rs (RR x')) :
    St σ n (Exit.then (fun a w => ∃ x', φ x' ∧ μ x' < μ x ∧ Rel n (E x') a ∧ Own σ (rs (RR x') ++ F) w) Q .normal) e R F := by
  exact fun a w hr ho => ⟨x', h1, h2, hr.sub h3, h5 ▸ ho.keep h4⟩
end

/-! ### Slices of a type -/
theorem slO_nil (E k : Nat) : slO E k (.slice none 0 0) [] (fun _ => none) := ⟨by simp, by simp, .inl ⟨rfl, rfl⟩⟩
/-- A slice whose elements are l, each laid out by enc in k cells. -/
abbrev slT {α : Type} (enc : α → List Value) (k : Nat) (v : Value) (l : List α) (w : World) : Prop := slR k v (l.map enc) w
abbrev slW {α : Type} (E : Nat) (enc : α → List Value) (k : Nat) (v : Value) (l : List α) : Res := slO E k v (l.map enc)
def encZ (x : Int) : List Value := [.int .i64 x]
def encS (x : ByteArray) : List Value := [.string x]
def encB (x : Bool) : List Value := [.bool x]
def encU (x : UInt8) : List Value := [.int .u8 x.toNat]
theorem Ent.idx {σ : World} {F : List Res} {α : Type} {enc : α → List Value} {k : Nat} {v : Value} {l : List α} {i : Nat} {x : α} (h : Ent σ F (slT enc k v l)) (hi : l[i]? = some x) : Ent σ F (At (idxA v i k) (enc x)) :=
  h.mono fun w h => h.at (by simp [hi])
theorem Ent.fld {σ : World} {F : List Res} {p : Addr} {cs : List Value} (h : Ent σ F (At p cs)) (j : Nat) : Ent σ F (At (p.add j) (cs.drop j)) := h.mono fun w h => h.drop j
section
variable {P : Program} {σ : World} {n : Nat} {F : List Res} {e : Env} {dst : Option Tmp} {ty : TypeId} {pos : String} {after : Array Edge} {guard : Option (Nat × Bool)}
theorem op_idx {α : Type} {enc : α → List Value} {T E k : Nat} {x y : Operand} {v : Value} {l : List α} {i : Nat} (hx : ev e x = some v) (hy : ev e y = some (.int .i64 i)) (ht : sliceB P T E k = true)
    (h : Ent σ F (slT enc k v l)) (hi : i < l.length) : OpT P σ n F ⟨dst, .indexAddr T x y, ty, pos, after, guard⟩ e [] (Det (.pointer (some (idxA v i k)))) :=
  op_indexAddr hx hy ht h (by simpa using hi)
theorem op_idxZ {α : Type} {enc : α → List Value} {T E k : Nat} {x y : Operand} {v : Value} {l : List α} {i : Int} (hx : ev e x = some v) (hy : ev e y = some (.int .i64 i)) (ht : sliceB P T E k = true)
    (h : Ent σ F (slT enc k v l)) (h0 : 0 ≤ i) (hi : i < l.length) : OpT P σ n F ⟨dst, .indexAddr T x y, ty, pos, after, guard⟩ e [] (Det (.pointer (some (idxA v i.toNat k)))) := by
  obtain ⟨m, rfl⟩ := Int.eq_ofNat_of_zero_le h0
  exact op_idx hx hy ht h (by omega)
theorem op_lenT {α : Type} {enc : α → List Value} {T E k : Nat} {x : Operand} {v : Value} {l : List α} {ats : TypeId} (hx : ev e x = some v) (ht : sliceB P T E k = true) (h : Ent σ F (slT enc k v l)) (ha : ats = T := by rfl) :
    OpT P σ n F ⟨dst, .call ⟨.builtin .len, #[x], #[ats]⟩, ty, pos, after, guard⟩ e [] (Det (.int .i64 l.length)) := by
  have := op_len (P := P) (n := n) (dst := dst) (ty := ty) (pos := pos) (after := after) (guard := guard) hx ht h ha
  simpa using this
end
theorem slT.le {α : Type} {enc : α → List Value} {k : Nat} {v : Value} {l : List α} {w : World} (h : slT enc k v l w) : l.length ≤ maxLen := by simpa using h.2.1
/-- A slice that may be read: its elements, and that its length is an int. -/
structure Sl (σ : World) (F : List Res) {α : Type} (enc : α → List Value) (k : Nat) (v : Value) (l : List α) : Prop where
  ent : Ent σ F (slT enc k v l)
  le : l.length ≤ maxLen
theorem Sl.app {σ : World} {F : List Res} {α : Type} {enc : α → List Value} {k : Nat} {v : Value} {l : List α} (h : Sl σ F enc k v l) (R : List Res) : Sl σ (R ++ F) enc k v l := ⟨h.ent.app R, h.le⟩
theorem Sl.lab {σ : World} {R : RL} {F : List Res} {α : Type} {enc : α → List Value} {E k : Nat} {v : Value} {l : List α} (lab : Nat) (h : getL R lab = some (slW E enc k v l)) (hl : l.length ≤ maxLen) : Sl σ (rs R ++ F) enc k v l := ⟨Ent.lab h says_slO, hl⟩
theorem Sl.i64 {σ : World} {F : List Res} {α : Type} {enc : α → List Value} {k : Nat} {v : Value} {l : List α} (h : Sl σ F enc k v l) : (l.length : Int) ≤ 9223372036854775807 := by have := h.le; unfold maxLen at this; omega
theorem getE {α : Type} {l : List α} {i : Nat} (h : i < l.length) : ∃ x, l[i]? = some x := ⟨l[i], List.getElem?_eq_getElem h⟩
theorem ltE {α : Type} {l : List α} {i : Nat} {x : α} (h : l[i]? = some x) : i < l.length := (List.getElem?_eq_some_iff.1 h).1
section
variable {P : Program} {σ : World} {n : Nat} {F : List Res} {e : Env} {dst : Option Tmp} {ty : TypeId} {pos : String} {after : Array Edge} {guard : Option (Nat × Bool)}
/-- An element of a slice, a field of one, a whole one. -/
theorem op_ldx {α : Type} {enc : α → List Value} {T k : Nat} {x : Operand} {v : Value} {l : List α} {i : Nat} {a : α} {u : Value} {cs : List Value} (hx : ev e x = some (.pointer (some (idxA v i k)))) (ht : oneB P T = true)
    (h : Sl σ F enc k v l) (hi : l[i]? = some a) (hc : enc a = u :: cs) : OpT P σ n F ⟨dst, .load T x, ty, pos, after, guard⟩ e [] (Det u) := op_load1 hx ht (by rw [← hc]; exact h.ent.idx hi)
theorem op_ldxf {α : Type} {enc : α → List Value} {T k : Nat} {x : Operand} {v : Value} {l : List α} {i j : Nat} {a : α} {u : Value} {cs : List Value} (hx : ev e x = some (.pointer (some ((idxA v i k).add j)))) (ht : oneB P T = true)
    (h : Sl σ F enc k v l) (hi : l[i]? = some a) (hc : (enc a).drop j = u :: cs) : OpT P σ n F ⟨dst, .load T x, ty, pos, after, guard⟩ e [] (Det u) := op_load1 hx ht (by rw [← hc]; exact (h.ent.idx hi).fld j)
theorem op_ldxA {α : Type} {enc : α → List Value} {T k s : Nat} {x : Operand} {v : Value} {l : List α} {i : Nat} {a : α} {cs : List Value} (hx : ev e x = some (.pointer (some (idxA v i k)))) (ht : aggB P T s = true)
    (h : Sl σ F enc k v l) (hi : l[i]? = some a) (hc : enc a = cs) (hs : s = cs.length) : OpT P σ n F ⟨dst, .load T x, ty, pos, after, guard⟩ e [] (Det (.agg cs.toArray)) := by
  have := op_loadA (P := P) (n := n) (dst := dst) (ty := ty) (pos := pos) (after := after) (guard := guard) hx ht (h.ent.idx hi) (by rw [hc]; omega)
  rw [hc, List.take_of_length_le (by omega)] at this
  exact this
end
end Go.SL
