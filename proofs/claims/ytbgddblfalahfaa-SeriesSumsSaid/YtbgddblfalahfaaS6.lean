/- Contracts of series.Untouched and the law SeriesUntouched (layer 43). Conditions: none. -/
import Derived.Test.YtbgddblfalahfaaOp
import Derived.Test.YtbgddblfalahfaaSlG
import Derived.Test.YtbgddblfalahfaaSlH
namespace Go.Proofs.Ytbgddblfalahfaa
open Go Go.SL Go.RowKit
set_option linter.unusedVariables false
set_option linter.unusedSimpArgs false
theorem tA37f : aggB Try.prog 37 2 = true := by kernel_rfl
theorem tA39f : aggB Try.prog 39 4 = true := by kernel_rfl
theorem tA42f : aggB Try.prog 42 2 = true := by kernel_rfl
theorem tF37_0f : fieldB Try.prog 37 0 0 = true := by kernel_rfl
theorem tF37_1f : fieldB Try.prog 37 1 1 = true := by kernel_rfl
theorem tF39_0f : fieldB Try.prog 39 0 0 = true := by kernel_rfl
theorem tF42_0f : fieldB Try.prog 42 0 0 = true := by kernel_rfl
theorem tMixf : Try.prog.follows .mixedOrders = true := by kernel_rfl
theorem tN3f : (Try.prog.info? 3).bind (·.zero) = some (Value.int .i64 0) := by kernel_rfl
theorem tN88f : (Try.prog.info? 88).bind (·.zero) = some (Value.nilFunc) := by kernel_rfl
theorem tO3f : oneB Try.prog 3 = true := by kernel_rfl
theorem tO88f : oneB Try.prog 88 = true := by kernel_rfl
theorem tS34f : sliceB Try.prog 34 39 4 = true := by kernel_rfl
theorem tS35f : sliceB Try.prog 35 42 2 = true := by kernel_rfl
theorem tZ3f : (Try.prog.info? 3).map (·.size) = some 1 := by kernel_rfl
theorem tZ88f : (Try.prog.info? 88).map (·.size) = some 1 := by kernel_rfl

def encRm (p : Int × ByteArray × Int × Int) : List Value := [(.int .i64 p.1 : Value), (.string p.2.1 : Value), (.int .i64 p.2.2.1 : Value), (.int .i64 p.2.2.2 : Value)]
def encLt (p : Int × Int) : List Value := [(.int .i64 p.1 : Value), (.int .i64 p.2 : Value)]
-- ENCT encLt Int × Int
set_option maxHeartbeats 400000 in
set_option maxRecDepth 100000 in
theorem indexRm {σ : World} {F : List Res} {a : Option Addr} {c : Nat} {rl : List (Int × ByteArray × Int × Int)} {g : Nat} {gn : Func} {fs cs : List Value} {p : Int × ByteArray × Int × Int → Bool} (h : Sl σ F encRm 4 (.slice a rl.length c) rl)
    (hg : Try.prog.funcs[g]? = some gn) (hgb : gn.body.isSome = true) (hgn : (gn.name == "runtime.NumGoroutine") = false) (hp : ∀ (X : List Res) (r : Int × ByteArray × Int × Int), FnT Try.prog σ (X ++ F) g (fs ++ [.agg (encRm r).toArray] ++ cs) [] (fun u ρ => u = .bool (p r) ∧ ρ = [])) :
    FnT Try.prog σ F 76 [.slice a rl.length c, .func (.func g) fs.toArray cs.toArray] [] (fun u ρ => u = .int .i64 (match rl.findIdx? p with | some i => (i : Int) | none => -1) ∧ ρ = []) := by
  refine fn_of 19 Try.func76 rfl Try.ntmps76 rfl ?_
  have hle := h.i64
  refine w_seq ?_
  refine w_region ?_
  refine wl_det rfl rfl rfl (op_assign rfl) ?_
  refine wl_nil ?_
  refine st_tn ?_
  refine w_seq ?_
  refine w_seq ?_
  refine w_region ?_
  refine wl_det rfl rfl rfl (op_move rfl) ?_
  refine wl_det rfl rfl rfl (op_lenT rfl tS34f (Sl.ent (by first | exact Sl.app (by assumption) _ | exact Sl.app (Sl.app (by assumption) _) _))) ?_
  refine wl_det rfl rfl rfl (op_move rfl) ?_
  refine wl_nil ?_
  refine st_tn ?_
  refine w_block ?_
  refine w_loopQ (X := Nat) (fun z => z ≤ rl.length ∧ ∀ r ∈ rl.take z, p r = false) (fun z => [(8, .int .i64 (z))]) (fun _ => []) (fun z => rl.length - z) (0) [(0, _), (1, _), (7, _)] [] [] rfl (rfl) (.cons rfl (.nil _)) (.cons rfl (.cons rfl (.cons rfl (.nil _)))) (by
      try dsimp only
      exact ⟨Nat.zero_le _, by simp⟩) ?_
  rintro i ⟨hi, hn⟩
  refine w_norm2 (by dsimp only [List.cons_append, List.nil_append]) (by dsimp only [List.cons_append, List.nil_append]) ?_
  try dsimp only at hi hn ⊢
  refine w_seq ?_
  refine w_region ?_
  refine wl_det rfl rfl rfl (op_lss rfl rfl) ?_
  refine wl_nil ?_
  refine st_tn ?_
  refine w_seq ?_
  refine w_cond_d rfl (fun hc9 => ?_) (fun hc9 => ?_)
  · -- c9.t
    obtain ⟨r, hr⟩ := getE (l := rl) (i := i) (by omega)
    have hlt := ltE hr
    refine w_skip ?_
    refine st_tn ?_
    refine w_seq ?_
    refine w_block ?_
    refine w_seq ?_
    refine w_region ?_
    refine wl_det rfl rfl rfl (op_move rfl) ?_
    refine wl_det rfl rfl rfl (op_assign rfl) ?_
    refine wl_nil ?_
    refine st_tn ?_
    refine w_seq ?_
    refine w_region ?_
    refine wl_det rfl rfl rfl (op_move rfl) ?_
    refine wl_det rfl rfl rfl (op_move rfl) ?_
    refine wl_det rfl rfl rfl (op_move rfl) ?_
    refine wl_det rfl rfl rfl (op_idx rfl rfl tS34f (Sl.ent (by first | exact Sl.app (by assumption) _ | exact Sl.app (Sl.app (by assumption) _) _)) (by omega)) ?_
    refine wl_det rfl rfl rfl (op_ldxA rfl tA39f (by first | exact Sl.app (by assumption) _ | exact Sl.app (Sl.app (by assumption) _) _) (by assumption) (by rfl) (by rfl)) ?_
    refine wl_det rfl rfl rfl (op_fnv hg hgb hgn rfl rfl (hp _ r)) ?_
    refine wl_nil ?_
    refine st_tn ?_
    refine w_cond rfl (fun hc16 => ?_) (fun hc16 => ?_)
    · -- c16.t
      refine w_seq ?_
      refine w_region ?_
      refine wl_det rfl rfl rfl (op_move rfl) ?_
      refine wl_det rfl rfl rfl (op_assign rfl) ?_
      refine wl_nil ?_
      refine st_tn ?_
      refine w_ret ?_
      refine st_br ?_
      refine st_tr ?_
      refine st_tr ?_
      refine st_br ?_
      refine st_tr ?_
      refine st_ret (vs := [_]) [] Try.results76 ⟨rfl, trivial⟩ rfl ?_
      refine ⟨_, rfl, ?_⟩
      refine ⟨?_, rfl⟩
      have : rl.findIdx? p = some i := by
        rw [List.findIdx?_eq_some_iff_getElem]
        obtain ⟨hlt', hge⟩ := List.getElem?_eq_some_iff.1 hr
        refine ⟨hlt', by rw [hge]; exact hc16, fun j hj => ?_⟩
        rw [hn _ (List.mem_take_iff_getElem.2 ⟨j, by omega, rfl⟩)]; simp
      rw [this]; rfl
    · -- c16.f
      refine w_skip ?_
      refine st_bn ?_
      refine st_tn ?_
      refine w_region ?_
      refine wl_det rfl rfl rfl (op_add' rfl rfl (by omega)) ?_
      refine wl_det rfl rfl rfl (op_move rfl) ?_
      refine wl_nil ?_
      refine st_roundQ (x := i) (i + 1) [] rfl (rfl) (.cons rfl (.nil _)) (.cons rfl (.cons rfl (.cons rfl (.nil _)))) (by
          try dsimp only
          refine ⟨by omega, by rw [take_snoc hr]; intro q hq; rcases List.mem_append.1 hq with hq | hq; (· exact hn q hq); (· simp only [List.mem_singleton] at hq; subst hq; exact hc16)⟩) (by
          try dsimp only
          omega) 
  · -- c9.f
    refine w_exit ?_
    refine st_te ?_
    refine st_te ?_
    refine st_be ?_
    refine st_tn ?_
    refine w_seq ?_
    refine w_region ?_
    refine wl_det rfl rfl rfl (op_assign rfl) ?_
    refine wl_nil ?_
    refine st_tn ?_
    refine w_ret ?_
    refine st_ret (vs := [_]) [] Try.results76 ⟨rfl, trivial⟩ rfl ?_
    refine ⟨_, rfl, ?_⟩
    refine ⟨?_, rfl⟩; rw [take_all (by omega)] at hn
    have : rl.findIdx? p = none := by rw [List.findIdx?_eq_none_iff]; exact hn
    rw [this]; rfl

set_option maxHeartbeats 400000 in
set_option maxRecDepth 100000 in
theorem containsRm {σ : World} {F : List Res} {a : Option Addr} {c : Nat} {rl : List (Int × ByteArray × Int × Int)} {g : Nat} {gn : Func} {fs cs : List Value} {p : Int × ByteArray × Int × Int → Bool} (h : Sl σ F encRm 4 (.slice a rl.length c) rl)
    (hg : Try.prog.funcs[g]? = some gn) (hgb : gn.body.isSome = true) (hgn : (gn.name == "runtime.NumGoroutine") = false) (hp : ∀ (X : List Res) (r : Int × ByteArray × Int × Int), FnT Try.prog σ (X ++ F) g (fs ++ [.agg (encRm r).toArray] ++ cs) [] (fun u ρ => u = .bool (p r) ∧ ρ = [])) :
    FnT Try.prog σ F 50 [.slice a rl.length c, .func (.func g) fs.toArray cs.toArray] [] (fun u ρ => u = .bool (rl.any p) ∧ ρ = []) := by
  refine fn_of 9 Try.func50 rfl Try.ntmps50 rfl ?_
  refine w_seq ?_
  refine w_region ?_
  refine wl_det rfl rfl rfl (op_assign rfl) ?_
  refine wl_nil ?_
  refine st_tn ?_
  refine w_seq ?_
  refine w_region ?_
  refine wl_det rfl rfl rfl (op_move rfl) ?_
  refine wl_det rfl rfl rfl (op_move rfl) ?_
  refine wl_det rfl rfl rfl (op_fn Try.func76 rfl rfl rfl (indexRm (Sl.app h _) hg hgb hgn (fun X r => by simpa using hp (X ++ rs []) r))) ?_
  refine wl_det rfl rfl rfl (op_geq rfl rfl) ?_
  refine wl_det rfl rfl rfl (op_assign rfl) ?_
  refine wl_nil ?_
  refine st_tn ?_
  refine w_ret ?_
  refine st_ret (vs := [_]) [] Try.results50 ⟨rfl, trivial⟩ rfl ?_
  refine ⟨_, rfl, ?_⟩
  refine ⟨?_, rfl⟩
  cases hf : rl.findIdx? p with
  | none => rw [List.findIdx?_eq_none_iff] at hf; simp only [retv]; congr 1; rw [List.any_eq_false.2 (fun x hx => by rw [hf x hx]; simp)]; rfl
  | some i => obtain ⟨hlt, h1, _⟩ := List.findIdx?_eq_some_iff_getElem.1 hf; simp only [retv]; congr 1; rw [List.any_eq_true.2 ⟨_, List.getElem_mem hlt, h1⟩]; simp

set_option maxHeartbeats 400000 in
set_option maxRecDepth 100000 in
theorem indexLt {σ : World} {F : List Res} {a : Option Addr} {c : Nat} {rl : List (Int × Int)} {g : Nat} {gn : Func} {fs cs : List Value} {p : Int × Int → Bool} (h : Sl σ F encLt 2 (.slice a rl.length c) rl)
    (hg : Try.prog.funcs[g]? = some gn) (hgb : gn.body.isSome = true) (hgn : (gn.name == "runtime.NumGoroutine") = false) (hp : ∀ (X : List Res) (r : Int × Int), FnT Try.prog σ (X ++ F) g (fs ++ [.agg (encLt r).toArray] ++ cs) [] (fun u ρ => u = .bool (p r) ∧ ρ = [])) :
    FnT Try.prog σ F 77 [.slice a rl.length c, .func (.func g) fs.toArray cs.toArray] [] (fun u ρ => u = .int .i64 (match rl.findIdx? p with | some i => (i : Int) | none => -1) ∧ ρ = []) := by
  refine fn_of 19 Try.func77 rfl Try.ntmps77 rfl ?_
  have hle := h.i64
  refine w_seq ?_
  refine w_region ?_
  refine wl_det rfl rfl rfl (op_assign rfl) ?_
  refine wl_nil ?_
  refine st_tn ?_
  refine w_seq ?_
  refine w_seq ?_
  refine w_region ?_
  refine wl_det rfl rfl rfl (op_move rfl) ?_
  refine wl_det rfl rfl rfl (op_lenT rfl tS35f (Sl.ent (by first | exact Sl.app (by assumption) _ | exact Sl.app (Sl.app (by assumption) _) _))) ?_
  refine wl_det rfl rfl rfl (op_move rfl) ?_
  refine wl_nil ?_
  refine st_tn ?_
  refine w_block ?_
  refine w_loopQ (X := Nat) (fun z => z ≤ rl.length ∧ ∀ r ∈ rl.take z, p r = false) (fun z => [(8, .int .i64 (z))]) (fun _ => []) (fun z => rl.length - z) (0) [(0, _), (1, _), (7, _)] [] [] rfl (rfl) (.cons rfl (.nil _)) (.cons rfl (.cons rfl (.cons rfl (.nil _)))) (by
      try dsimp only
      exact ⟨Nat.zero_le _, by simp⟩) ?_
  rintro i ⟨hi, hn⟩
  refine w_norm2 (by dsimp only [List.cons_append, List.nil_append]) (by dsimp only [List.cons_append, List.nil_append]) ?_
  try dsimp only at hi hn ⊢
  refine w_seq ?_
  refine w_region ?_
  refine wl_det rfl rfl rfl (op_lss rfl rfl) ?_
  refine wl_nil ?_
  refine st_tn ?_
  refine w_seq ?_
  refine w_cond_d rfl (fun hc9 => ?_) (fun hc9 => ?_)
  · -- c9.t
    obtain ⟨r, hr⟩ := getE (l := rl) (i := i) (by omega)
    have hlt := ltE hr
    refine w_skip ?_
    refine st_tn ?_
    refine w_seq ?_
    refine w_block ?_
    refine w_seq ?_
    refine w_region ?_
    refine wl_det rfl rfl rfl (op_move rfl) ?_
    refine wl_det rfl rfl rfl (op_assign rfl) ?_
    refine wl_nil ?_
    refine st_tn ?_
    refine w_seq ?_
    refine w_region ?_
    refine wl_det rfl rfl rfl (op_move rfl) ?_
    refine wl_det rfl rfl rfl (op_move rfl) ?_
    refine wl_det rfl rfl rfl (op_move rfl) ?_
    refine wl_det rfl rfl rfl (op_idx rfl rfl tS35f (Sl.ent (by first | exact Sl.app (by assumption) _ | exact Sl.app (Sl.app (by assumption) _) _)) (by omega)) ?_
    refine wl_det rfl rfl rfl (op_ldxA rfl tA42f (by first | exact Sl.app (by assumption) _ | exact Sl.app (Sl.app (by assumption) _) _) (by assumption) (by rfl) (by rfl)) ?_
    refine wl_det rfl rfl rfl (op_fnv hg hgb hgn rfl rfl (hp _ r)) ?_
    refine wl_nil ?_
    refine st_tn ?_
    refine w_cond rfl (fun hc16 => ?_) (fun hc16 => ?_)
    · -- c16.t
      refine w_seq ?_
      refine w_region ?_
      refine wl_det rfl rfl rfl (op_move rfl) ?_
      refine wl_det rfl rfl rfl (op_assign rfl) ?_
      refine wl_nil ?_
      refine st_tn ?_
      refine w_ret ?_
      refine st_br ?_
      refine st_tr ?_
      refine st_tr ?_
      refine st_br ?_
      refine st_tr ?_
      refine st_ret (vs := [_]) [] Try.results77 ⟨rfl, trivial⟩ rfl ?_
      refine ⟨_, rfl, ?_⟩
      refine ⟨?_, rfl⟩
      have : rl.findIdx? p = some i := by
        rw [List.findIdx?_eq_some_iff_getElem]
        obtain ⟨hlt', hge⟩ := List.getElem?_eq_some_iff.1 hr
        refine ⟨hlt', by rw [hge]; exact hc16, fun j hj => ?_⟩
        rw [hn _ (List.mem_take_iff_getElem.2 ⟨j, by omega, rfl⟩)]; simp
      rw [this]; rfl
    · -- c16.f
      refine w_skip ?_
      refine st_bn ?_
      refine st_tn ?_
      refine w_region ?_
      refine wl_det rfl rfl rfl (op_add' rfl rfl (by omega)) ?_
      refine wl_det rfl rfl rfl (op_move rfl) ?_
      refine wl_nil ?_
      refine st_roundQ (x := i) (i + 1) [] rfl (rfl) (.cons rfl (.nil _)) (.cons rfl (.cons rfl (.cons rfl (.nil _)))) (by
          try dsimp only
          refine ⟨by omega, by rw [take_snoc hr]; intro q hq; rcases List.mem_append.1 hq with hq | hq; (· exact hn q hq); (· simp only [List.mem_singleton] at hq; subst hq; exact hc16)⟩) (by
          try dsimp only
          omega) 
  · -- c9.f
    refine w_exit ?_
    refine st_te ?_
    refine st_te ?_
    refine st_be ?_
    refine st_tn ?_
    refine w_seq ?_
    refine w_region ?_
    refine wl_det rfl rfl rfl (op_assign rfl) ?_
    refine wl_nil ?_
    refine st_tn ?_
    refine w_ret ?_
    refine st_ret (vs := [_]) [] Try.results77 ⟨rfl, trivial⟩ rfl ?_
    refine ⟨_, rfl, ?_⟩
    refine ⟨?_, rfl⟩; rw [take_all (by omega)] at hn
    have : rl.findIdx? p = none := by rw [List.findIdx?_eq_none_iff]; exact hn
    rw [this]; rfl

set_option maxHeartbeats 400000 in
set_option maxRecDepth 100000 in
theorem containsLt {σ : World} {F : List Res} {a : Option Addr} {c : Nat} {rl : List (Int × Int)} {g : Nat} {gn : Func} {fs cs : List Value} {p : Int × Int → Bool} (h : Sl σ F encLt 2 (.slice a rl.length c) rl)
    (hg : Try.prog.funcs[g]? = some gn) (hgb : gn.body.isSome = true) (hgn : (gn.name == "runtime.NumGoroutine") = false) (hp : ∀ (X : List Res) (r : Int × Int), FnT Try.prog σ (X ++ F) g (fs ++ [.agg (encLt r).toArray] ++ cs) [] (fun u ρ => u = .bool (p r) ∧ ρ = [])) :
    FnT Try.prog σ F 52 [.slice a rl.length c, .func (.func g) fs.toArray cs.toArray] [] (fun u ρ => u = .bool (rl.any p) ∧ ρ = []) := by
  refine fn_of 9 Try.func52 rfl Try.ntmps52 rfl ?_
  refine w_seq ?_
  refine w_region ?_
  refine wl_det rfl rfl rfl (op_assign rfl) ?_
  refine wl_nil ?_
  refine st_tn ?_
  refine w_seq ?_
  refine w_region ?_
  refine wl_det rfl rfl rfl (op_move rfl) ?_
  refine wl_det rfl rfl rfl (op_move rfl) ?_
  refine wl_det rfl rfl rfl (op_fn Try.func77 rfl rfl rfl (indexLt (Sl.app h _) hg hgb hgn (fun X r => by simpa using hp (X ++ rs []) r))) ?_
  refine wl_det rfl rfl rfl (op_geq rfl rfl) ?_
  refine wl_det rfl rfl rfl (op_assign rfl) ?_
  refine wl_nil ?_
  refine st_tn ?_
  refine w_ret ?_
  refine st_ret (vs := [_]) [] Try.results52 ⟨rfl, trivial⟩ rfl ?_
  refine ⟨_, rfl, ?_⟩
  refine ⟨?_, rfl⟩
  cases hf : rl.findIdx? p with
  | none => rw [List.findIdx?_eq_none_iff] at hf; simp only [retv]; congr 1; rw [List.any_eq_false.2 (fun x hx => by rw [hf x hx]; simp)]; rfl
  | some i => obtain ⟨hlt, h1, _⟩ := List.findIdx?_eq_some_iff_getElem.1 hf; simp only [retv]; congr 1; rw [List.any_eq_true.2 ⟨_, List.getElem_mem hlt, h1⟩]; simp

set_option maxHeartbeats 400000 in
set_option maxRecDepth 100000 in
theorem touched_any {σ : World} {F : List Res} {p q : Addr} (x y z : Int) (hp : Ent σ F (At p [.int .i64 x])) (hq : Ent σ F (At q [.int .i64 y])) : FnT Try.prog σ F 49 [.int .i64 z, .pointer (some p), .pointer (some q)] [] (fun u ρ => u = .bool (decide (x ≤ z ∧ z ≤ y)) ∧ ρ = []) := by
  refine fn_of 13 Try.func49 rfl Try.ntmps49 rfl ?_
  refine w_seq ?_
  refine w_region ?_
  refine wl_det rfl rfl rfl (op_assign rfl) ?_
  refine wl_nil ?_
  refine st_tn ?_
  refine w_seq ?_
  refine w_region ?_
  refine wl_det rfl rfl rfl (op_load1 rfl tO3f (Ent.app hp _)) ?_
  refine wl_det rfl rfl rfl (op_move rfl) ?_
  refine wl_det rfl rfl rfl (op_leq rfl rfl) ?_
  refine wl_det rfl rfl rfl (op_move rfl) ?_
  refine wl_gsplit (t := 8) rfl (fun hg8 => ?_) (fun hg8 => ?_)
  · -- 8 is True
    refine wl_wanted_det rfl rfl rfl rfl rfl rfl rfl (op_move rfl) ?_
    refine wl_wanted_det rfl rfl rfl rfl rfl rfl rfl (op_load1 rfl tO3f (Ent.app hq _)) ?_
    refine wl_wanted_det rfl rfl rfl rfl rfl rfl rfl (op_leq rfl rfl) ?_
    refine wl_det rfl rfl rfl (op_pick_t rfl rfl) ?_
    refine wl_det rfl rfl rfl (op_assign rfl) ?_
    refine wl_nil ?_
    refine st_tn ?_
    refine w_ret ?_
    refine st_ret (vs := [_]) [] Try.results49 ⟨rfl, trivial⟩ rfl ?_
    refine ⟨_, rfl, ?_⟩
    refine ⟨?_, rfl⟩
    first | (simp [retv, *]; done) | (simp [retv, *]; omega)
  · -- 8 is False
    refine wl_unwanted rfl rfl rfl rfl rfl rfl rfl rfl ?_
    refine wl_unwanted rfl rfl rfl rfl rfl rfl rfl rfl ?_
    refine wl_unwanted rfl rfl rfl rfl rfl rfl rfl rfl ?_
    refine wl_det rfl rfl rfl (op_pick_f rfl rfl) ?_
    refine wl_det rfl rfl rfl (op_assign rfl) ?_
    refine wl_nil ?_
    refine st_tn ?_
    refine w_ret ?_
    refine st_ret (vs := [_]) [] Try.results49 ⟨rfl, trivial⟩ rfl ?_
    refine ⟨_, rfl, ?_⟩
    refine ⟨?_, rfl⟩
    first | (simp [retv, *]; done) | (simp [retv, *]; omega)

set_option maxHeartbeats 400000 in
set_option maxRecDepth 100000 in
theorem touchRm {σ : World} {F : List Res} {p q s : Addr} (x y : Int) (r : Int × ByteArray × Int × Int) (hp : Ent σ F (At p [.int .i64 x])) (hq : Ent σ F (At q [.int .i64 y])) (hs : Ent σ F (At s [.func (.func 49) #[] #[.pointer (some p), .pointer (some q)]])) : FnT Try.prog σ F 51 [.agg (encRm r).toArray, .pointer (some s)] [] (fun u ρ => u = .bool (decide (x ≤ r.1 ∧ r.1 ≤ y)) ∧ ρ = []) := by
  refine fn_of 8 Try.func51 rfl Try.ntmps51 rfl ?_
  refine w_seq ?_
  refine w_region ?_
  refine wl_op [] rfl rfl rfl rfl (op_box (T := 39) (l := 2) rfl) ?_
  rintro _ _ ⟨b2, rfl, rfl⟩
  refine wl_det rfl rfl rfl (op_assign rfl) ?_
  refine wl_nil ?_
  refine st_tn ?_
  refine w_seq ?_
  refine w_region ?_
  refine wl_det rfl rfl rfl (op_load1 rfl tO88f (Ent.app hs _)) ?_
  refine wl_det rfl rfl rfl (op_fieldAddr (off := 0) rfl tF39_0f) ?_
  refine wl_det rfl rfl rfl (op_load1 rfl tO3f (Ent.lab (l := 2) rfl (says_cel 0))) ?_
  refine wl_det rfl rfl rfl (op_fnv (fs := []) (cs := [.pointer (some p), .pointer (some q)]) Try.func49 rfl rfl rfl rfl (touched_any x y r.1 (Ent.app hp _) (Ent.app hq _))) ?_
  refine wl_det rfl rfl rfl (op_assign rfl) ?_
  refine wl_nil ?_
  refine st_tn ?_
  refine w_ret ?_
  refine st_ret (vs := [_]) [] Try.results51 ⟨rfl, trivial⟩ rfl ?_
  refine ⟨_, rfl, ?_⟩
  exact ⟨rfl, rfl⟩

set_option maxHeartbeats 400000 in
set_option maxRecDepth 100000 in
theorem touchLt {σ : World} {F : List Res} {p q s : Addr} (x y : Int) (r : Int × Int) (hp : Ent σ F (At p [.int .i64 x])) (hq : Ent σ F (At q [.int .i64 y])) (hs : Ent σ F (At s [.func (.func 49) #[] #[.pointer (some p), .pointer (some q)]])) : FnT Try.prog σ F 53 [.agg (encLt r).toArray, .pointer (some s)] [] (fun u ρ => u = .bool (decide (x ≤ r.1 ∧ r.1 ≤ y)) ∧ ρ = []) := by
  refine fn_of 8 Try.func53 rfl Try.ntmps53 rfl ?_
  refine w_seq ?_
  refine w_region ?_
  refine wl_op [] rfl rfl rfl rfl (op_box (T := 42) (l := 2) rfl) ?_
  rintro _ _ ⟨b2, rfl, rfl⟩
  refine wl_det rfl rfl rfl (op_assign rfl) ?_
  refine wl_nil ?_
  refine st_tn ?_
  refine w_seq ?_
  refine w_region ?_
  refine wl_det rfl rfl rfl (op_load1 rfl tO88f (Ent.app hs _)) ?_
  refine wl_det rfl rfl rfl (op_fieldAddr (off := 0) rfl tF42_0f) ?_
  refine wl_det rfl rfl rfl (op_load1 rfl tO3f (Ent.lab (l := 2) rfl (says_cel 0))) ?_
  refine wl_det rfl rfl rfl (op_fnv (fs := []) (cs := [.pointer (some p), .pointer (some q)]) Try.func49 rfl rfl rfl rfl (touched_any x y r.1 (Ent.app hp _) (Ent.app hq _))) ?_
  refine wl_det rfl rfl rfl (op_assign rfl) ?_
  refine wl_nil ?_
  refine st_tn ?_
  refine w_ret ?_
  refine st_ret (vs := [_]) [] Try.results53 ⟨rfl, trivial⟩ rfl ?_
  refine ⟨_, rfl, ?_⟩
  exact ⟨rfl, rfl⟩

/-- Untouched's error. -/
def untE (rm : List (Int × ByteArray × Int × Int)) (lt : List (Int × Int)) (x y : Int) : Int :=
  if x < y ∧ (rm.any (fun r => decide (x / 16 ≤ r.1 ∧ r.1 ≤ (y - 1) / 16)) || lt.any (fun r => decide (x / 16 ≤ r.1 ∧ r.1 ≤ (y - 1) / 16))) = true then 30 else 0
set_option maxHeartbeats 2000000 in
set_option maxRecDepth 100000 in
theorem untouched_any {σ : World} {F : List Res} {a b : Option Addr} {c d : Nat} {rm : List (Int × ByteArray × Int × Int)} {lt : List (Int × Int)} (x y : Int) (h : Sl σ F encRm 4 (.slice a rm.length c) rm) (g : Sl σ F encLt 2 (.slice b lt.length d) lt) (hx : -9223372036854775808 ≤ x ∧ x ≤ 9223372036854775807) (hy : -9223372036854775808 ≤ y ∧ y ≤ 9223372036854775807) :
    FnT Try.prog σ F 19 [.slice a rm.length c, .slice b lt.length d, .agg #[.int .i64 x, .int .i64 y]] [] (fun u ρ => u = .int .i64 (untE rm lt x y) ∧ ρ = []) := by
  refine fn_of 31 Try.func19 rfl Try.ntmps19 rfl ?_
  refine w_seq ?_
  refine w_region ?_
  refine wl_op [] rfl rfl rfl rfl (op_box (T := 37) (l := 5) rfl) ?_
  rintro _ _ ⟨b5, rfl, rfl⟩
  refine wl_det rfl rfl rfl (op_assign rfl) ?_
  refine wl_nil ?_
  refine st_tn ?_
  refine w_seq ?_
  refine w_seq ?_
  refine w_region ?_
  refine wl_det rfl rfl rfl (op_fieldAddr (off := 0) rfl tF37_0f) ?_
  refine wl_det rfl rfl rfl (op_load1 rfl tO3f (Ent.lab (l := 5) rfl (says_cel 0))) ?_
  refine wl_det rfl rfl rfl (op_fieldAddr (off := 1) rfl tF37_1f) ?_
  refine wl_det rfl rfl rfl (op_load1 rfl tO3f (Ent.lab (l := 5) rfl (says_cel 1))) ?_
  refine wl_det rfl rfl rfl (op_geq rfl rfl) ?_
  refine wl_nil ?_
  refine st_tn ?_
  refine w_cond_d rfl (fun hc14 => ?_) (fun hc14 => ?_)
  · -- c14.t
    refine w_seq ?_
    refine w_region ?_
    refine wl_det rfl rfl rfl (op_assign rfl) ?_
    refine wl_nil ?_
    refine st_tn ?_
    refine w_ret ?_
    refine st_tr ?_
    refine st_ret (vs := [_]) [] Try.results19 ⟨rfl, trivial⟩ rfl ?_
    refine ⟨_, rfl, ?_⟩
    refine ⟨?_, rfl⟩; unfold untE; rw [if_neg (by omega)]; rfl
  · -- c14.f
    refine w_skip ?_
    refine st_tn ?_
    refine w_seq ?_
    refine w_drawW (fun β => [⟨15, [], [], [], noW (_), false, [], []⟩, ⟨16, [0], [], [], noW (_), false, [], []⟩, ⟨17, [1], [], [], noW (_), false, [], []⟩, ⟨18, [], [], [], noW (_), false, [], []⟩, ⟨19, [3], [], [], noW (_), false, [], []⟩, ⟨20, [4], [], [], noW (_), false, [], []⟩, ⟨21, [5], [], [], noW (_), false, [], []⟩, ⟨7, [], [], [], fun w => DetW _ _, true, [], []⟩, ⟨8, [], [], [], fun w => DetW _ _, false, [], []⟩, ⟨40, [2], [7], [], noW (_), false, [], []⟩]) [] [5] [⟨15, [], [], false, [], []⟩, ⟨16, [0], [], false, [], []⟩, ⟨17, [1], [], false, [], []⟩, ⟨18, [], [], false, [], []⟩, ⟨19, [3], [], false, [], []⟩, ⟨20, [4], [], false, [], []⟩, ⟨21, [5], [], false, [], []⟩, ⟨7, [], [], true, [], []⟩, ⟨8, [], [], false, [], []⟩, ⟨40, [2], [7], false, [], []⟩] [[], [], [], [], [], [], [], [], [], [7]] [[], [], [], [], [], [], [], [], [], []] tMixf (fun _ => by rfl) (fun _ => by rfl) (by kernel_rfl) (by kernel_rfl) (by rfl) (by rfl)
        (fun β => ⟨.p rfl (by intro X; exact op_fieldAddr (off := 0) rfl tF37_0f),
        ⟨.p rfl (by intro X; rintro _ _ ⟨rfl, rfl⟩; exact op_load1 rfl tO3f (Ent.lab (l := 5) rfl (says_cel 0))),
        ⟨.p rfl (by intro X; rintro _ _ ⟨rfl, rfl⟩; exact op_shrC (c := 16) rfl rfl (by decide) (by decide)),
        ⟨.p rfl (by intro X; exact op_fieldAddr (off := 1) rfl tF37_1f),
        ⟨.p rfl (by intro X; rintro _ _ ⟨rfl, rfl⟩; exact op_load1 rfl tO3f (Ent.lab (l := 5) rfl (says_cel 1))),
        ⟨.p rfl (by intro X; rintro _ _ ⟨rfl, rfl⟩; exact op_sub' rfl rfl (by omega)),
        ⟨.p rfl (by intro X; rintro _ _ ⟨rfl, rfl⟩; exact op_shrC (c := 16) rfl rfl (by decide) (by decide)),
        ⟨.px rfl (by intro X; refine OpT.mono (op_alloc (l := 7) tN3f) ?_; rintro _ _ ⟨b7, rfl, rfl⟩; obtain ⟨w, rfl⟩ : ∃ w : Wt, w.b = b7 := ⟨{ b := b7 }, rfl⟩; exact ⟨w, rfl, rfl⟩),
        ⟨.px rfl (by intro X; refine OpT.mono (op_alloc (l := 8) tN3f) ?_; rintro _ _ ⟨b8, rfl, rfl⟩; obtain ⟨w, rfl⟩ : ∃ w : Wt, w.b = b8 := ⟨{ b := b8 }, rfl⟩; exact ⟨w, rfl, rfl⟩),
        ⟨.p rfl (by intro X; rintro _ _ ⟨rfl, rfl⟩ _ _ ⟨rfl, rfl⟩; show OpT _ _ _ _ _ _ [(_, _)] _; exact op_store rfl rfl tZ3f (by rfl) (by rfl) (by exact Nat.le_of_ble_eq_true rfl)) (hu := by exact .inr fun _ _ h => h.1),
        trivial⟩⟩⟩⟩⟩⟩⟩⟩⟩⟩)
        (fun β β' => ⟨fun _ => by rfl, ⟨fun _ => by rfl, ⟨fun _ => by rfl, ⟨fun _ => by rfl, ⟨fun _ => by rfl, ⟨fun _ => by rfl, ⟨fun _ => by rfl, ⟨fun _ => by rfl, ⟨fun _ => by rfl, ⟨fun h => by first | rfl | (simp only [h 7 (by decide)]), trivial⟩⟩⟩⟩⟩⟩⟩⟩⟩⟩) ?_
    intro β
    rintro _ _ ⟨rfl, rfl⟩ _ _ ⟨rfl, rfl⟩ _ _ ⟨rfl, rfl⟩ _ _ ⟨rfl, rfl⟩ _ _ ⟨rfl, rfl⟩ _ _ ⟨rfl, rfl⟩ _ _ ⟨rfl, rfl⟩ _ _ ⟨rfl, rfl⟩ _ _ ⟨rfl, rfl⟩ _ _ ⟨rfl, rfl⟩
    generalize (β 7).b = b7
    generalize (β 8).b = b8
    refine wl_norm (e' := [(0, _), (1, _), (7, _), (8, _), (21, _)]) (.cons rfl (.cons rfl (.cons rfl (.cons rfl (.cons rfl (.nil _)))))) (by dsimp only [cond_false, cond_true, List.nil_append, List.cons_append]) ?_
    refine wl_op0 [8] rfl rfl rfl (op_store rfl rfl tZ3f (by rfl) (by rfl) (by exact Nat.le_of_ble_eq_true rfl)) ?_
    rintro _ _ ⟨rfl, rfl⟩
    refine wl_nil ?_
    refine st_tn ?_
    refine w_seq ?_
    refine w_region ?_
    refine wl_det rfl rfl rfl (op_makeFunc rfl rfl) ?_
    refine wl_op [] rfl rfl rfl rfl (op_alloc (l := 9) tN88f) ?_
    rintro _ _ ⟨b9, rfl, rfl⟩
    refine wl_op0 [9] rfl rfl rfl (op_store rfl rfl tZ88f (by rfl) (by rfl) (by exact Nat.le_of_ble_eq_true rfl)) ?_
    rintro _ _ ⟨rfl, rfl⟩
    refine wl_nil ?_
    refine st_tn ?_
    refine w_seq ?_
    refine w_seq ?_
    refine w_region ?_
    refine wl_det rfl rfl rfl (op_move rfl) ?_
    refine wl_det rfl rfl rfl (op_makeFunc rfl rfl) ?_
    refine wl_det rfl rfl rfl (op_fn Try.func50 rfl rfl rfl (containsRm (fs := []) (cs := [.pointer (some ⟨b9, 0, none⟩)]) (p := fun r => decide (x / 16 ≤ r.1 ∧ r.1 ≤ (y - 1) / 16)) (Sl.app h _) Try.func51 rfl rfl (fun X r => touchRm (x / 16) ((y - 1) / 16) r (Ent.app (Ent.lab (l := 7) rfl (says_cel 0)) X) (Ent.app (Ent.lab (l := 8) rfl (says_cel 0)) X) (Ent.app (Ent.lab (l := 9) rfl (says_cel 0)) X)))) ?_
    refine wl_det rfl rfl rfl (op_move rfl) ?_
    refine wl_gsplitB (t := 26) rfl (fun hg26 => ?_) (fun hg26 => ?_)
    · -- 26 is True
      refine wl_unwanted rfl rfl rfl rfl rfl rfl rfl rfl ?_
      refine wl_unwanted rfl rfl rfl rfl rfl rfl rfl rfl ?_
      refine wl_unwanted rfl rfl rfl rfl rfl rfl rfl rfl ?_
      refine wl_det rfl rfl rfl (op_pick_t rfl rfl) ?_
      refine wl_nil ?_
      refine st_tn ?_
      refine w_cond rfl (fun hc30 => ?_) (fun hc30 => ?_)
      · -- c30.t
        refine w_seq ?_
        refine w_region ?_
        refine wl_det rfl rfl rfl (op_assign rfl) ?_
        refine wl_nil ?_
        refine st_tn ?_
        refine w_ret ?_
        refine st_tr ?_
        refine st_ret (vs := [_]) [] Try.results19 ⟨rfl, trivial⟩ rfl ?_
        refine ⟨_, rfl, ?_⟩
        refine ⟨?_, rfl⟩; unfold untE; first | (rw [if_pos ⟨by omega, by rw [hg26]; rfl⟩]; rfl) | (rw [if_pos ⟨by omega, by rw [hc30]; simp⟩]; rfl)
      · -- c30.f
        simp at hc30
    · -- 26 is False
      refine wl_wanted_det rfl rfl rfl rfl rfl rfl rfl (op_move rfl) ?_
      refine wl_wanted_det rfl rfl rfl rfl rfl rfl rfl (op_makeFunc rfl rfl) ?_
      refine wl_wanted_det rfl rfl rfl rfl rfl rfl rfl (op_fn Try.func52 rfl rfl rfl (containsLt (fs := []) (cs := [.pointer (some ⟨b9, 0, none⟩)]) (p := fun r => decide (x / 16 ≤ r.1 ∧ r.1 ≤ (y - 1) / 16)) (Sl.app g _) Try.func53 rfl rfl (fun X r => touchLt (x / 16) ((y - 1) / 16) r (Ent.app (Ent.lab (l := 7) rfl (says_cel 0)) X) (Ent.app (Ent.lab (l := 8) rfl (says_cel 0)) X) (Ent.app (Ent.lab (l := 9) rfl (says_cel 0)) X)))) ?_
      refine wl_det rfl rfl rfl (op_pick_f rfl rfl) ?_
      refine wl_nil ?_
      refine st_tn ?_
      refine w_cond rfl (fun hc30 => ?_) (fun hc30 => ?_)
      · -- c30.t
        refine w_seq ?_
        refine w_region ?_
        refine wl_det rfl rfl rfl (op_assign rfl) ?_
        refine wl_nil ?_
        refine st_tn ?_
        refine w_ret ?_
        refine st_tr ?_
        refine st_ret (vs := [_]) [] Try.results19 ⟨rfl, trivial⟩ rfl ?_
        refine ⟨_, rfl, ?_⟩
        refine ⟨?_, rfl⟩; unfold untE; first | (rw [if_pos ⟨by omega, by rw [hg26]; rfl⟩]; rfl) | (rw [if_pos ⟨by omega, by rw [hc30]; simp⟩]; rfl)
      · -- c30.f
        refine w_skip ?_
        refine st_tn ?_
        refine w_seq ?_
        refine w_region ?_
        refine wl_det rfl rfl rfl (op_assign rfl) ?_
        refine wl_nil ?_
        refine st_tn ?_
        refine w_ret ?_
        refine st_ret (vs := [_]) [] Try.results19 ⟨rfl, trivial⟩ rfl ?_
        refine ⟨_, rfl, ?_⟩
        refine ⟨?_, rfl⟩; unfold untE; rw [if_neg (by rintro ⟨_, h2⟩; rw [hg26, hc30] at h2; simp at h2)]; rfl

/-- A partition that a count concerns. -/
def tch (rm : List (Int × ByteArray × Int × Int)) (lt : List (Int × Int)) (k : Int) : Prop := (∃ r ∈ rm, r.1 = k / 16) ∨ ∃ r ∈ lt, r.1 = k / 16
theorem untE_iff {rm : List (Int × ByteArray × Int × Int)} {lt : List (Int × Int)} {x y : Int} : untE rm lt x y = 30 ↔ ∃ k, x ≤ k ∧ k < y ∧ tch rm lt k := by
  unfold untE
  have hs : ∀ p : Int, (x < y ∧ x / 16 ≤ p ∧ p ≤ (y - 1) / 16) ↔ ∃ k, x ≤ k ∧ k < y ∧ p = k / 16 := fun p => by
    constructor
    · rintro ⟨h0, h1, h2⟩
      by_cases hp : x ≤ 16 * p
      · exact ⟨16 * p, hp, by omega, by omega⟩
      · exact ⟨x, by omega, by omega, by omega⟩
    · rintro ⟨k, h1, h2, rfl⟩; exact ⟨by omega, by omega, by omega⟩
  split
  · rename_i h
    simp only [true_iff]
    obtain ⟨h0, h⟩ := h
    rcases Bool.or_eq_true _ _ ▸ h with h | h
    · obtain ⟨r, hr, h⟩ := List.any_eq_true.1 h
      obtain ⟨k, h1, h2, h3⟩ := (hs r.1).1 ⟨h0, of_decide_eq_true h⟩
      exact ⟨k, h1, h2, .inl ⟨r, hr, h3⟩⟩
    · obtain ⟨r, hr, h⟩ := List.any_eq_true.1 h
      obtain ⟨k, h1, h2, h3⟩ := (hs r.1).1 ⟨h0, of_decide_eq_true h⟩
      exact ⟨k, h1, h2, .inr ⟨r, hr, h3⟩⟩
  · rename_i h
    constructor
    · intro h0; simp at h0
    · rintro ⟨k, h1, h2, h3⟩
      exfalso; apply h
      rcases h3 with ⟨r, hr, h3⟩ | ⟨r, hr, h3⟩
      · have h4 := (hs r.1).2 ⟨k, h1, h2, h3⟩
        exact ⟨h4.1, by rw [Bool.or_eq_true]; exact .inl (List.any_eq_true.2 ⟨r, hr, decide_eq_true h4.2⟩)⟩
      · have h4 := (hs r.1).2 ⟨k, h1, h2, h3⟩
        exact ⟨h4.1, by rw [Bool.or_eq_true]; exact .inr (List.any_eq_true.2 ⟨r, hr, decide_eq_true h4.2⟩)⟩
theorem untE_or {rm : List (Int × ByteArray × Int × Int)} {lt : List (Int × Int)} {x y : Int} : untE rm lt x y = 0 ∨ untE rm lt x y = 30 := by unfold untE; split <;> simp
-- CALL sleuth/series.Untouched untouched_any _ _ (Sl.app h _) (Sl.app g _) hx hy
set_option maxHeartbeats 2000000 in
set_option maxRecDepth 100000 in
theorem lawUntouched_any {σ : World} {F : List Res} {a b : Option Addr} {c d : Nat} {rm : List (Int × ByteArray × Int × Int)} {lt : List (Int × Int)} (x y : Int) (h : Sl σ F encRm 4 (.slice a rm.length c) rm) (g : Sl σ F encLt 2 (.slice b lt.length d) lt) (hx : -9223372036854775808 ≤ x ∧ x ≤ 9223372036854775807) (hy : -9223372036854775808 ≤ y ∧ y ≤ 9223372036854775807) :
    FnT Try.prog σ F 4 [.slice a rm.length c, .slice b lt.length d, .agg #[.int .i64 x, .int .i64 y]] [] (fun u ρ => u = .bool true ∧ ρ = []) := by
  refine fn_of 84 Try.func4 rfl Try.ntmps4 rfl ?_
  have hle := h.i64
  have gle := g.i64
  refine w_seq ?_
  refine w_region ?_
  refine wl_op [] rfl rfl rfl rfl (op_box (T := 37) (l := 5) rfl) ?_
  rintro _ _ ⟨b5, rfl, rfl⟩
  refine wl_det rfl rfl rfl (op_assign rfl) ?_
  refine wl_nil ?_
  refine st_tn ?_
  refine w_seq ?_
  refine w_seq ?_
  refine w_cutL [(40, .bool (decide (rm.length > 5 ∨ lt.length > 5 ∨ x < 0 ∨ y > 1048576 ∨ IntKind.i64.wrap (y - x) > 80)))] [0, 1, 5] [5] rfl (fun K' hK => ?_) ?_
  · -- cut r1
    refine w_region ?_
    refine wl_det rfl rfl rfl (op_fn Try.func16 rfl rfl rfl (known_any)) ?_
    refine wl_det rfl rfl rfl (op_not_t rfl) ?_
    refine wl_det rfl rfl rfl (op_move rfl) ?_
    refine wl_wanted_det rfl rfl rfl rfl rfl rfl rfl (op_move rfl) ?_
    refine wl_wanted_det rfl rfl rfl rfl rfl rfl rfl (op_lenT rfl tS34f (Sl.ent (by first | exact Sl.app (by assumption) _ | exact Sl.app (Sl.app (by assumption) _) _))) ?_
    refine wl_wanted_det rfl rfl rfl rfl rfl rfl rfl (op_gtr rfl rfl) ?_
    refine wl_det rfl rfl rfl (op_pick_f rfl rfl) ?_
    refine wl_det rfl rfl rfl (op_move rfl) ?_
    refine wl_gsplit (t := 18) rfl (fun hg18 => ?_) (fun hg18 => ?_)
    · -- 18 is True
      refine wl_unwanted rfl rfl rfl rfl rfl rfl rfl rfl ?_
      refine wl_unwanted rfl rfl rfl rfl rfl rfl rfl rfl ?_
      refine wl_unwanted rfl rfl rfl rfl rfl rfl rfl rfl ?_
      refine wl_det rfl rfl rfl (op_pick_t rfl rfl) ?_
      refine wl_det rfl rfl rfl (op_move rfl) ?_
      refine wl_unwanted rfl rfl rfl rfl rfl rfl rfl rfl ?_
      refine wl_unwanted rfl rfl rfl rfl rfl rfl rfl rfl ?_
      refine wl_unwanted rfl rfl rfl rfl rfl rfl rfl rfl ?_
      refine wl_det rfl rfl rfl (op_pick_t rfl rfl) ?_
      refine wl_det rfl rfl rfl (op_move rfl) ?_
      refine wl_unwanted rfl rfl rfl rfl rfl rfl rfl rfl ?_
      refine wl_unwanted rfl rfl rfl rfl rfl rfl rfl rfl ?_
      refine wl_unwanted rfl rfl rfl rfl rfl rfl rfl rfl ?_
      refine wl_det rfl rfl rfl (op_pick_t rfl rfl) ?_
      refine wl_det rfl rfl rfl (op_move rfl) ?_
      refine wl_unwanted rfl rfl rfl rfl rfl rfl rfl rfl ?_
      refine wl_unwanted rfl rfl rfl rfl rfl rfl rfl rfl ?_
      refine wl_unwanted rfl rfl rfl rfl rfl rfl rfl rfl ?_
      refine wl_unwanted rfl rfl rfl rfl rfl rfl rfl rfl ?_
      refine wl_unwanted rfl rfl rfl rfl rfl rfl rfl rfl ?_
      refine wl_unwanted rfl rfl rfl rfl rfl rfl rfl rfl ?_
      refine wl_det rfl rfl rfl (op_pick_t rfl rfl) ?_
      refine wl_nil ?_
      refine st_tn ?_
      exact cut_done1 [5] hK rfl (by first | (rw [decide_eq_decide]; omega) | (symm; rw [decide_eq_false_iff_not]; omega) | (symm; rw [decide_eq_true_iff]; omega) | (simp; done) | (simp; omega) | (simp [*]; done) | (simp [*]; omega)) (by rfl) rfl rfl
    · -- 18 is False
      refine wl_wanted_det rfl rfl rfl rfl rfl rfl rfl (op_move rfl) ?_
      refine wl_wanted_det rfl rfl rfl rfl rfl rfl rfl (op_lenT rfl tS35f (Sl.ent (by first | exact Sl.app (by assumption) _ | exact Sl.app (Sl.app (by assumption) _) _))) ?_
      refine wl_wanted_det rfl rfl rfl rfl rfl rfl rfl (op_gtr rfl rfl) ?_
      refine wl_det rfl rfl rfl (op_pick_f rfl rfl) ?_
      refine wl_det rfl rfl rfl (op_move rfl) ?_
      refine wl_gsplit (t := 23) rfl (fun hg23 => ?_) (fun hg23 => ?_)
      · -- 23 is True
        refine wl_unwanted rfl rfl rfl rfl rfl rfl rfl rfl ?_
        refine wl_unwanted rfl rfl rfl rfl rfl rfl rfl rfl ?_
        refine wl_unwanted rfl rfl rfl rfl rfl rfl rfl rfl ?_
        refine wl_det rfl rfl rfl (op_pick_t rfl rfl) ?_
        refine wl_det rfl rfl rfl (op_move rfl) ?_
        refine wl_unwanted rfl rfl rfl rfl rfl rfl rfl rfl ?_
        refine wl_unwanted rfl rfl rfl rfl rfl rfl rfl rfl ?_
        refine wl_unwanted rfl rfl rfl rfl rfl rfl rfl rfl ?_
        refine wl_det rfl rfl rfl (op_pick_t rfl rfl) ?_
        refine wl_det rfl rfl rfl (op_move rfl) ?_
        refine wl_unwanted rfl rfl rfl rfl rfl rfl rfl rfl ?_
        refine wl_unwanted rfl rfl rfl rfl rfl rfl rfl rfl ?_
        refine wl_unwanted rfl rfl rfl rfl rfl rfl rfl rfl ?_
        refine wl_unwanted rfl rfl rfl rfl rfl rfl rfl rfl ?_
        refine wl_unwanted rfl rfl rfl rfl rfl rfl rfl rfl ?_
        refine wl_unwanted rfl rfl rfl rfl rfl rfl rfl rfl ?_
        refine wl_det rfl rfl rfl (op_pick_t rfl rfl) ?_
        refine wl_nil ?_
        refine st_tn ?_
        exact cut_done1 [5] hK rfl (by first | (rw [decide_eq_decide]; omega) | (symm; rw [decide_eq_false_iff_not]; omega) | (symm; rw [decide_eq_true_iff]; omega) | (simp; done) | (simp; omega) | (simp [*]; done) | (simp [*]; omega)) (by rfl) rfl rfl
      · -- 23 is False
        refine wl_wanted_det rfl rfl rfl rfl rfl rfl rfl (op_fieldAddr (off := 0) rfl tF37_0f) ?_
        refine wl_wanted_det rfl rfl rfl rfl rfl rfl rfl (op_load1 rfl tO3f (Ent.lab (l := 5) rfl (says_cel 0))) ?_
        refine wl_wanted_det rfl rfl rfl rfl rfl rfl rfl (op_lss rfl rfl) ?_
        refine wl_det rfl rfl rfl (op_pick_f rfl rfl) ?_
        refine wl_det rfl rfl rfl (op_move rfl) ?_
        refine wl_gsplit (t := 28) rfl (fun hg28 => ?_) (fun hg28 => ?_)
        · -- 28 is True
          refine wl_unwanted rfl rfl rfl rfl rfl rfl rfl rfl ?_
          refine wl_unwanted rfl rfl rfl rfl rfl rfl rfl rfl ?_
          refine wl_unwanted rfl rfl rfl rfl rfl rfl rfl rfl ?_
          refine wl_det rfl rfl rfl (op_pick_t rfl rfl) ?_
          refine wl_det rfl rfl rfl (op_move rfl) ?_
          refine wl_unwanted rfl rfl rfl rfl rfl rfl rfl rfl ?_
          refine wl_unwanted rfl rfl rfl rfl rfl rfl rfl rfl ?_
          refine wl_unwanted rfl rfl rfl rfl rfl rfl rfl rfl ?_
          refine wl_unwanted rfl rfl rfl rfl rfl rfl rfl rfl ?_
          refine wl_unwanted rfl rfl rfl rfl rfl rfl rfl rfl ?_
          refine wl_unwanted rfl rfl rfl rfl rfl rfl rfl rfl ?_
          refine wl_det rfl rfl rfl (op_pick_t rfl rfl) ?_
          refine wl_nil ?_
          refine st_tn ?_
          exact cut_done1 [5] hK rfl (by first | (rw [decide_eq_decide]; omega) | (symm; rw [decide_eq_false_iff_not]; omega) | (symm; rw [decide_eq_true_iff]; omega) | (simp; done) | (simp; omega) | (simp [*]; done) | (simp [*]; omega)) (by rfl) rfl rfl
        · -- 28 is False
          refine wl_wanted_det rfl rfl rfl rfl rfl rfl rfl (op_fieldAddr (off := 1) rfl tF37_1f) ?_
          refine wl_wanted_det rfl rfl rfl rfl rfl rfl rfl (op_load1 rfl tO3f (Ent.lab (l := 5) rfl (says_cel 1))) ?_
          refine wl_wanted_det rfl rfl rfl rfl rfl rfl rfl (op_gtr rfl rfl) ?_
          refine wl_det rfl rfl rfl (op_pick_f rfl rfl) ?_
          refine wl_det rfl rfl rfl (op_move rfl) ?_
          refine wl_gsplit (t := 33) rfl (fun hg33 => ?_) (fun hg33 => ?_)
          · -- 33 is True
            refine wl_unwanted rfl rfl rfl rfl rfl rfl rfl rfl ?_
            refine wl_unwanted rfl rfl rfl rfl rfl rfl rfl rfl ?_
            refine wl_unwanted rfl rfl rfl rfl rfl rfl rfl rfl ?_
            refine wl_unwanted rfl rfl rfl rfl rfl rfl rfl rfl ?_
            refine wl_unwanted rfl rfl rfl rfl rfl rfl rfl rfl ?_
            refine wl_unwanted rfl rfl rfl rfl rfl rfl rfl rfl ?_
            refine wl_det rfl rfl rfl (op_pick_t rfl rfl) ?_
            refine wl_nil ?_
            refine st_tn ?_
            exact cut_done1 [5] hK rfl (by first | (rw [decide_eq_decide]; omega) | (symm; rw [decide_eq_false_iff_not]; omega) | (symm; rw [decide_eq_true_iff]; omega) | (simp; done) | (simp; omega) | (simp [*]; done) | (simp [*]; omega)) (by rfl) rfl rfl
          · -- 33 is False
            refine wl_wanted_det rfl rfl rfl rfl rfl rfl rfl (op_fieldAddr (off := 1) rfl tF37_1f) ?_
            refine wl_wanted_det rfl rfl rfl rfl rfl rfl rfl (op_load1 rfl tO3f (Ent.lab (l := 5) rfl (says_cel 1))) ?_
            refine wl_wanted_det rfl rfl rfl rfl rfl rfl rfl (op_fieldAddr (off := 0) rfl tF37_0f) ?_
            refine wl_wanted_det rfl rfl rfl rfl rfl rfl rfl (op_load1 rfl tO3f (Ent.lab (l := 5) rfl (says_cel 0))) ?_
            refine wl_wanted_det rfl rfl rfl rfl rfl rfl rfl (op_sub rfl rfl) ?_
            refine wl_wanted_det rfl rfl rfl rfl rfl rfl rfl (op_gtr rfl rfl) ?_
            refine wl_det rfl rfl rfl (op_pick_f rfl rfl) ?_
            refine wl_nil ?_
            refine st_tn ?_
            exact cut_done1 [5] hK rfl (by first | (rw [decide_eq_decide]; omega) | (symm; rw [decide_eq_false_iff_not]; omega) | (symm; rw [decide_eq_true_iff]; omega) | (simp; done) | (simp; omega) | (simp [*]; done) | (simp [*]; omega)) (by rfl) rfl rfl
  · -- behind r1
    show W _ _ _ _ _ [(40, _), (0, _), (1, _), (5, _)] [(5, _)] _
    refine w_cond_d rfl (fun hc40 => ?_) (fun hc40 => ?_)
    · -- c40.t
      refine w_seq ?_
      refine w_region ?_
      refine wl_det rfl rfl rfl (op_fn Try.func16 rfl rfl rfl (known_any)) ?_
      refine wl_det rfl rfl rfl (op_assign rfl) ?_
      refine wl_nil ?_
      refine st_tn ?_
      refine w_ret ?_
      refine st_tr ?_
      refine st_ret (vs := [_]) [] Try.results4 ⟨rfl, trivial⟩ rfl ?_
      refine ⟨_, rfl, ?_⟩
      exact ⟨rfl, rfl⟩
    · -- c40.f
      refine w_skip ?_
      refine st_tn ?_
      refine w_seq ?_
      refine w_region ?_
      refine wl_det rfl rfl rfl (op_assign rfl) ?_
      refine wl_nil ?_
      refine st_tn ?_
      refine w_seq ?_
      refine w_seq ?_
      refine w_region ?_
      refine wl_det rfl rfl rfl (op_fieldAddr (off := 0) rfl tF37_0f) ?_
      refine wl_det rfl rfl rfl (op_load1 rfl tO3f (Ent.lab (l := 5) rfl (says_cel 0))) ?_
      refine wl_det rfl rfl rfl (op_assign rfl) ?_
      refine wl_nil ?_
      refine st_tn ?_
      refine w_block ?_
      refine w_loopQ (X := Int × Int) (fun z => (x ≤ z.2 ∧ (z.2 ≤ y ∨ z.2 = x)) ∧ (z.1 = 0 ∨ z.1 = 30) ∧ (z.1 = 30 ↔ ∃ j, x ≤ j ∧ j < z.2 ∧ tch rm lt j)) (fun z => [(7, .int .i64 (z.1)), (8, .int .i64 (z.2))]) (fun _ => []) (fun z => (y - z.2).toNat) ((_, _)) [(0, _), (1, _), (5, _)] [(5, _)] [5] rfl (rfl) (.cons rfl (.cons rfl (.nil _))) (.cons rfl (.cons rfl (.cons rfl (.nil _)))) (by
          try dsimp only
          exact ⟨⟨by omega, .inr rfl⟩, .inl rfl, by constructor; (· intro h0; simp at h0); (· rintro ⟨j, h1, h2, _⟩; omega)⟩) ?_
      rintro ⟨want, k⟩ ⟨hk, hw, hi⟩
      refine w_norm2 (by dsimp only [List.cons_append, List.nil_append]) (by dsimp only [List.cons_append, List.nil_append]) ?_
      try dsimp only at hk hw hi ⊢
      refine w_seq ?_
      refine w_seq ?_
      refine w_region ?_
      refine wl_det rfl rfl rfl (op_move rfl) ?_
      refine wl_det rfl rfl rfl (op_fieldAddr (off := 1) rfl tF37_1f) ?_
      refine wl_det rfl rfl rfl (op_load1 rfl tO3f (Ent.lab (l := 5) rfl (says_cel 1))) ?_
      refine wl_det rfl rfl rfl (op_lss rfl rfl) ?_
      refine wl_nil ?_
      refine st_tn ?_
      refine w_cond_d rfl (fun hc47 => ?_) (fun hc47 => ?_)
      · -- c47.t
        refine w_skip ?_
        refine st_tn ?_
        refine w_seq ?_
        refine w_block ?_
        refine w_seq ?_
        refine w_seq ?_
        refine w_region ?_
        refine wl_det rfl rfl rfl (op_assign rfl) ?_
        refine wl_nil ?_
        refine st_tn ?_
        refine w_block ?_
        refine w_loopQ (X := Int × Nat) (fun z => z.2 ≤ rm.length ∧ (z.1 = 0 ∨ z.1 = 30) ∧ (z.1 = 30 ↔ want = 30 ∨ ∃ r ∈ rm.take z.2, r.1 = k / 16)) (fun z => [(7, .int .i64 (z.1)), (9, .int .i64 (z.2))]) (fun _ => []) (fun z => rm.length - z.2) ((_, 0)) [(0, _), (1, _), (5, _), (8, _)] [(5, _)] [5] rfl (rfl) (.cons rfl (.cons rfl (.nil _))) (.cons rfl (.cons rfl (.cons rfl (.cons rfl (.nil _))))) (by
            try dsimp only
            exact ⟨Nat.zero_le _, hw, by simp⟩) ?_
        rintro ⟨want1, i⟩ ⟨hin, hw1, hi1⟩
        refine w_norm2 (by dsimp only [List.cons_append, List.nil_append]) (by dsimp only [List.cons_append, List.nil_append]) ?_
        try dsimp only at hin hw1 hi1 ⊢
        refine w_seq ?_
        refine w_seq ?_
        refine w_region ?_
        refine wl_det rfl rfl rfl (op_move rfl) ?_
        refine wl_det rfl rfl rfl (op_move rfl) ?_
        refine wl_det rfl rfl rfl (op_lenT rfl tS34f (Sl.ent (by first | exact Sl.app (by assumption) _ | exact Sl.app (Sl.app (by assumption) _) _))) ?_
        refine wl_det rfl rfl rfl (op_lss rfl rfl) ?_
        refine wl_nil ?_
        refine st_tn ?_
        refine w_cond_d rfl (fun hc53 => ?_) (fun hc53 => ?_)
        · -- c53.t
          obtain ⟨r, hr⟩ := getE (l := rm) (i := i) (by omega)
          have hlt := ltE hr
          refine w_skip ?_
          refine st_tn ?_
          refine w_seq ?_
          refine w_block ?_
          refine w_seq ?_
          refine w_region ?_
          refine wl_det rfl rfl rfl (op_move rfl) ?_
          refine wl_det rfl rfl rfl (op_move rfl) ?_
          refine wl_det rfl rfl rfl (op_idx rfl rfl tS34f (Sl.ent (by first | exact Sl.app (by assumption) _ | exact Sl.app (Sl.app (by assumption) _) _)) (by omega)) ?_
          refine wl_det rfl rfl rfl (op_fieldAddr (off := 0) rfl tF39_0f) ?_
          refine wl_det rfl rfl rfl (op_ldxf rfl tO3f (by first | exact Sl.app (by assumption) _ | exact Sl.app (Sl.app (by assumption) _) _) (by assumption) (by rfl)) ?_
          refine wl_det rfl rfl rfl (op_move rfl) ?_
          refine wl_det rfl rfl rfl (op_shrC (c := 16) rfl rfl (by decide) (by decide)) ?_
          refine wl_det rfl rfl rfl (op_eql rfl rfl) ?_
          refine wl_nil ?_
          refine st_tn ?_
          refine w_cond_d rfl (fun hc63 => ?_) (fun hc63 => ?_)
          · -- c63.t
            refine w_region ?_
            refine wl_det rfl rfl rfl (op_assign rfl) ?_
            refine wl_nil ?_
            refine st_bn ?_
            refine st_tn ?_
            refine w_region ?_
            refine wl_det rfl rfl rfl (op_move rfl) ?_
            refine wl_det rfl rfl rfl (op_add' rfl rfl (by omega)) ?_
            refine wl_det rfl rfl rfl (op_assign rfl) ?_
            refine wl_nil ?_
            refine st_roundQ (x := (want1, i)) ((30, i + 1)) [5] rfl (rfl) (.cons rfl (.cons rfl (.nil _))) (.cons rfl (.cons rfl (.cons rfl (.cons rfl (.nil _))))) (by
                try dsimp only
                refine ⟨by omega, .inr rfl, ?_⟩
                simp only [true_iff]; rw [take_snoc hr]; exact .inr ⟨r, by simp, hc63⟩) (by
                try dsimp only
                omega) 
          · -- c63.f
            refine w_skip ?_
            refine st_bn ?_
            refine st_tn ?_
            refine w_region ?_
            refine wl_det rfl rfl rfl (op_move rfl) ?_
            refine wl_det rfl rfl rfl (op_add' rfl rfl (by omega)) ?_
            refine wl_det rfl rfl rfl (op_assign rfl) ?_
            refine wl_nil ?_
            refine st_roundQ (x := (want1, i)) ((want1, i + 1)) [5] rfl (rfl) (.cons rfl (.cons rfl (.nil _))) (.cons rfl (.cons rfl (.cons rfl (.cons rfl (.nil _))))) (by
                try dsimp only
                refine ⟨by omega, hw1, ?_⟩
                rw [hi1, take_snoc hr]
                constructor
                · rintro (h1 | ⟨q, hq, e⟩); (· exact .inl h1); (· exact .inr ⟨q, List.mem_append.2 (.inl hq), e⟩)
                · rintro (h1 | ⟨q, hq, e⟩); (· exact .inl h1); rcases List.mem_append.1 hq with hq | hq; (· exact .inr ⟨q, hq, e⟩); (· simp only [List.mem_singleton] at hq; subst hq; exact absurd e hc63)) (by
                try dsimp only
                omega) 
        · -- c53.f
          refine w_exit ?_
          refine st_te ?_
          refine st_te ?_
          refine st_be ?_
          refine st_tn ?_
          refine w_seq ?_
          refine w_region ?_
          refine wl_det rfl rfl rfl (op_assign rfl) ?_
          refine wl_nil ?_
          refine st_tn ?_
          refine w_block ?_
          refine w_loopQ (X := Int × Nat) (fun z => z.2 ≤ lt.length ∧ (z.1 = 0 ∨ z.1 = 30) ∧ (z.1 = 30 ↔ (want = 30 ∨ ∃ r ∈ rm.take i, r.1 = k / 16) ∨ ∃ r ∈ lt.take z.2, r.1 = k / 16)) (fun z => [(7, .int .i64 (z.1)), (10, .int .i64 (z.2))]) (fun _ => []) (fun z => lt.length - z.2) ((_, 0)) [(0, _), (1, _), (5, _), (8, _)] [(5, _)] [5] rfl (rfl) (.cons rfl (.cons rfl (.nil _))) (.cons rfl (.cons rfl (.cons rfl (.cons rfl (.nil _))))) (by
              try dsimp only
              exact ⟨Nat.zero_le _, hw1, by rw [hi1]; simp⟩) ?_
          rintro ⟨want2, i2⟩ ⟨hin2, hw2, hi2⟩
          refine w_norm2 (by dsimp only [List.cons_append, List.nil_append]) (by dsimp only [List.cons_append, List.nil_append]) ?_
          try dsimp only at hin2 hw2 hi2 ⊢
          refine w_seq ?_
          refine w_seq ?_
          refine w_region ?_
          refine wl_det rfl rfl rfl (op_move rfl) ?_
          refine wl_det rfl rfl rfl (op_move rfl) ?_
          refine wl_det rfl rfl rfl (op_lenT rfl tS35f (Sl.ent (by first | exact Sl.app (by assumption) _ | exact Sl.app (Sl.app (by assumption) _) _))) ?_
          refine wl_det rfl rfl rfl (op_lss rfl rfl) ?_
          refine wl_nil ?_
          refine st_tn ?_
          refine w_cond_d rfl (fun hc67 => ?_) (fun hc67 => ?_)
          · -- c67.t
            obtain ⟨r, hr⟩ := getE (l := lt) (i := i2) (by omega)
            have hlt := ltE hr
            refine w_skip ?_
            refine st_tn ?_
            refine w_seq ?_
            refine w_block ?_
            refine w_seq ?_
            refine w_region ?_
            refine wl_det rfl rfl rfl (op_move rfl) ?_
            refine wl_det rfl rfl rfl (op_move rfl) ?_
            refine wl_det rfl rfl rfl (op_idx rfl rfl tS35f (Sl.ent (by first | exact Sl.app (by assumption) _ | exact Sl.app (Sl.app (by assumption) _) _)) (by omega)) ?_
            refine wl_det rfl rfl rfl (op_fieldAddr (off := 0) rfl tF42_0f) ?_
            refine wl_det rfl rfl rfl (op_ldxf rfl tO3f (by first | exact Sl.app (by assumption) _ | exact Sl.app (Sl.app (by assumption) _) _) (by assumption) (by rfl)) ?_
            refine wl_det rfl rfl rfl (op_move rfl) ?_
            refine wl_det rfl rfl rfl (op_shrC (c := 16) rfl rfl (by decide) (by decide)) ?_
            refine wl_det rfl rfl rfl (op_eql rfl rfl) ?_
            refine wl_nil ?_
            refine st_tn ?_
            refine w_cond_d rfl (fun hc77 => ?_) (fun hc77 => ?_)
            · -- c77.t
              refine w_region ?_
              refine wl_det rfl rfl rfl (op_assign rfl) ?_
              refine wl_nil ?_
              refine st_bn ?_
              refine st_tn ?_
              refine w_region ?_
              refine wl_det rfl rfl rfl (op_move rfl) ?_
              refine wl_det rfl rfl rfl (op_add' rfl rfl (by omega)) ?_
              refine wl_det rfl rfl rfl (op_assign rfl) ?_
              refine wl_nil ?_
              refine st_roundQ (x := (want2, i2)) ((30, i2 + 1)) [5] rfl (rfl) (.cons rfl (.cons rfl (.nil _))) (.cons rfl (.cons rfl (.cons rfl (.cons rfl (.nil _))))) (by
                  try dsimp only
                  refine ⟨by omega, .inr rfl, ?_⟩
                  simp only [true_iff]; rw [take_snoc hr]; exact .inr ⟨r, by simp, hc77⟩) (by
                  try dsimp only
                  omega) 
            · -- c77.f
              refine w_skip ?_
              refine st_bn ?_
              refine st_tn ?_
              refine w_region ?_
              refine wl_det rfl rfl rfl (op_move rfl) ?_
              refine wl_det rfl rfl rfl (op_add' rfl rfl (by omega)) ?_
              refine wl_det rfl rfl rfl (op_assign rfl) ?_
              refine wl_nil ?_
              refine st_roundQ (x := (want2, i2)) ((want2, i2 + 1)) [5] rfl (rfl) (.cons rfl (.cons rfl (.nil _))) (.cons rfl (.cons rfl (.cons rfl (.cons rfl (.nil _))))) (by
                  try dsimp only
                  refine ⟨by omega, hw2, ?_⟩
                  rw [hi2, take_snoc hr]
                  constructor
                  · rintro (h1 | ⟨q, hq, e⟩); (· exact .inl h1); (· exact .inr ⟨q, List.mem_append.2 (.inl hq), e⟩)
                  · rintro (h1 | ⟨q, hq, e⟩); (· exact .inl h1); rcases List.mem_append.1 hq with hq | hq; (· exact .inr ⟨q, hq, e⟩); (· simp only [List.mem_singleton] at hq; subst hq; exact absurd e hc77)) (by
                  try dsimp only
                  omega) 
          · -- c67.f
            refine w_exit ?_
            refine st_te ?_
            refine st_te ?_
            refine st_be ?_
            refine st_bn ?_
            refine st_tn ?_
            refine w_region ?_
            refine wl_det rfl rfl rfl (op_move rfl) ?_
            refine wl_det rfl rfl rfl (op_add' rfl rfl (by omega)) ?_
            refine wl_det rfl rfl rfl (op_assign rfl) ?_
            refine wl_nil ?_
            refine st_roundQ (x := (want, k)) ((_, k + 1)) [5] rfl (rfl) (.cons rfl (.cons rfl (.nil _))) (.cons rfl (.cons rfl (.cons rfl (.nil _)))) (by
                try dsimp only
                refine ⟨⟨by omega, by omega⟩, hw2, ?_⟩
                rw [hi2]
                constructor
                · rintro (h1 | h1)
                  · rcases h1 with h1 | h1
                    · obtain ⟨j, h2, h3, h4⟩ := hi.1 h1; exact ⟨j, h2, by omega, h4⟩
                    · obtain ⟨r, hr, e⟩ := h1; rw [take_all (by omega)] at hr; exact ⟨k, by omega, by omega, .inl ⟨r, hr, e⟩⟩
                  · obtain ⟨r, hr, e⟩ := h1; rw [take_all (by omega)] at hr; exact ⟨k, by omega, by omega, .inr ⟨r, hr, e⟩⟩
                · rintro ⟨j, h1, h2, h3⟩
                  by_cases hj : j = k
                  · subst hj
                    rcases h3 with ⟨r, hr, e⟩ | ⟨r, hr, e⟩
                    · exact .inl (.inr ⟨r, by rw [take_all (by omega)]; exact hr, e⟩)
                    · exact .inr ⟨r, by rw [take_all (by omega)]; exact hr, e⟩
                  · exact .inl (.inl (hi.2 ⟨j, h1, by omega, h3⟩))) (by
                try dsimp only
                omega) 
      · -- c47.f
        refine w_exit ?_
        refine st_te ?_
        refine st_te ?_
        refine st_be ?_
        refine st_tn ?_
        refine w_seq ?_
        refine w_region ?_
        refine wl_det rfl rfl rfl (op_move rfl) ?_
        refine wl_det rfl rfl rfl (op_move rfl) ?_
        refine wl_det rfl rfl rfl (op_loadA rfl tA37f (Ent.lab (l := 5) rfl (says_cel 0)) (Nat.le_of_ble_eq_true rfl)) ?_
        refine wl_det rfl rfl rfl (op_fn Try.func19 rfl rfl rfl (untouched_any _ _ (Sl.app h _) (Sl.app g _) hx hy)) ?_
        refine wl_det rfl rfl rfl (op_move rfl) ?_
        refine wl_det rfl rfl rfl (op_val (v' := .bool true) (by 
              refine congrArg Value.bool (decide_eq_true ?_)
              have h1 := untE_iff (rm := rm) (lt := lt) (x := x) (y := y)
              have h2 := untE_or (rm := rm) (lt := lt) (x := x) (y := y)
              have h3 : want = 30 ↔ untE rm lt x y = 30 := by
                rw [h1, hi]
                constructor
                · rintro ⟨j, p1, p2, p3⟩; exact ⟨j, p1, by clear h1 h2 hi hw; omega, p3⟩
                · rintro ⟨j, p1, p2, p3⟩; exact ⟨j, p1, by clear h1 h2 hi hw; omega, p3⟩
              omega) (op_eql rfl rfl)) ?_
        refine wl_det rfl rfl rfl (op_assign rfl) ?_
        refine wl_nil ?_
        refine st_tn ?_
        refine w_ret ?_
        refine st_ret (vs := [_]) [] Try.results4 ⟨rfl, trivial⟩ rfl ?_
        refine ⟨_, rfl, ?_⟩
        exact ⟨rfl, rfl⟩

end Go.Proofs.Ytbgddblfalahfaa
