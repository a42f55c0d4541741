/- Contracts of the package bitmap: selection, membership, equality, ranges. Conditions: none. -/
import Derived.Test.YtkknlfhncheflaaB4
namespace Go.Proofs.Ytkknlfhncheflaa
open Go Go.SL Go.RowKit Go.BitM
set_option linter.unusedVariables false
set_option linter.unusedSimpArgs false
theorem tA58e : aggB Try.prog 58 2 = true := by kernel_rfl
theorem tF26_0e : fieldB Try.prog 26 0 0 = true := by kernel_rfl
theorem tF58_0e : fieldB Try.prog 58 0 0 = true := by kernel_rfl
theorem tF58_1e : fieldB Try.prog 58 1 1 = true := by kernel_rfl
theorem tN58e : (Try.prog.info? 58).bind (·.zero) = some (Value.agg #[Value.int .i64 0, Value.int .i64 0]) := by kernel_rfl
theorem tO24e : oneB Try.prog 24 = true := by kernel_rfl
theorem tO3e : oneB Try.prog 3 = true := by kernel_rfl
theorem tS24e : sliceB Try.prog 24 58 2 = true := by kernel_rfl
theorem tZ58e : (Try.prog.info? 58).map (·.size) = some 2 := by kernel_rfl

/-- The row with a rank, counted from the run on. -/
def selR : List Run → Int → Option Int
  | [], _ => none
  | r :: rl, k => if k ≥ r.2 - r.1 + 1 then selR rl (k - (r.2 - r.1 + 1)) else some (r.1 + k)
theorem drop_cons {α : Type} {l : List α} {i : Nat} {x : α} (h : l[i]? = some x) : l.drop i = x :: l.drop (i + 1) := by
  obtain ⟨hlt, rfl⟩ := List.getElem?_eq_some_iff.1 h
  exact List.drop_eq_getElem_cons hlt
theorem drop_all {α : Type} {l : List α} {i : Nat} (h : ¬ i < l.length) : l.drop i = [] := List.drop_eq_nil_of_le (by omega)
def selV : Option Int → Value
  | none => .tuple #[.int .i64 0, .bool false]
  | some n => .tuple #[.int .i64 n, .bool true]
set_option maxHeartbeats 400000 in
set_option maxRecDepth 100000 in
theorem select_any {σ : World} {F : List Res} {a : Option Addr} {c : Nat} {rl : List Run} (k : Int) (h : Sl σ F encRun 2 (.slice a rl.length c) rl) (hl : rl.length ≤ 1099511627776) (hb : inB 0 1048576 rl) (hk : -9223372036854775808 ≤ k ∧ k ≤ 9223372036854775807) :
    FnT Try.prog σ F 24 [bm a rl.length c, .int .i64 k] [] (fun u ρ => u = (if k < 0 then selV none else selV (selR rl k)) ∧ ρ = []) := by
  refine fn_of 35 Try.func24 rfl Try.ntmps24 rfl ?_
  refine w_seq ?_
  refine w_region ?_
  refine wl_op [] rfl rfl rfl rfl (op_box (T := 26) (l := 2) rfl) ?_
  rintro _ _ ⟨b2, rfl, rfl⟩
  refine wl_det rfl rfl rfl (op_assign rfl) ?_
  refine wl_det rfl rfl rfl (op_assign rfl) ?_
  refine wl_nil ?_
  refine st_tn ?_
  refine w_seq ?_
  refine w_seq ?_
  refine w_region ?_
  refine wl_det rfl rfl rfl (op_move rfl) ?_
  refine wl_det rfl rfl rfl (op_lss rfl rfl) ?_
  refine wl_nil ?_
  refine st_tn ?_
  refine w_cond_d rfl (fun hc10 => ?_) (fun hc10 => ?_)
  · -- c10.t
    refine w_seq ?_
    refine w_region ?_
    refine wl_det rfl rfl rfl (op_assign rfl) ?_
    refine wl_det rfl rfl rfl (op_assign rfl) ?_
    refine wl_nil ?_
    refine st_tn ?_
    refine w_ret ?_
    refine st_tr ?_
    refine st_ret (vs := [_, _]) [] Try.results24 ⟨rfl, ⟨rfl, trivial⟩⟩ rfl ?_
    refine ⟨_, rfl, ?_⟩
    refine ⟨?_, rfl⟩; rw [if_pos hc10]; rfl
  · -- c10.f
    refine w_skip ?_
    refine st_tn ?_
    refine w_seq ?_
    refine w_seq ?_
    refine w_region ?_
    refine wl_det rfl rfl rfl (op_fieldAddr (off := 0) rfl tF26_0e) ?_
    refine wl_det rfl rfl rfl (op_load1 rfl tO24e (Ent.lab (l := 2) rfl (says_cel 0))) ?_
    refine wl_det rfl rfl rfl (op_lenT rfl tS24e (Sl.ent (by first | exact Sl.app (by assumption) _ | exact Sl.app (Sl.app (by assumption) _) _))) ?_
    refine wl_det rfl rfl rfl (op_move rfl) ?_
    refine wl_nil ?_
    refine st_tn ?_
    refine w_block ?_
    refine w_loop (X := Nat × Int) (fun z => z.1 ≤ rl.length ∧ 0 ≤ z.2 ∧ z.2 ≤ k ∧ selR (rl.drop z.1) z.2 = selR rl k) (fun z => [(1, .int .i64 z.2), (12, .slice a rl.length c), (13, .int .i64 rl.length), (14, .int .i64 z.1)]) (fun _ => []) (fun z => rl.length - z.1) ((0, k)) (⟨Nat.zero_le _, by show 0 ≤ k; omega, Int.le_refl _, rfl⟩) (.cons rfl (.cons rfl (.cons rfl (.cons rfl (.nil _))))) ⟨[], _, _, rfl, rfl⟩ ?_
    rintro ⟨i, q⟩ ⟨hi, hq, hqk, hs⟩
    dsimp only at hi hq hqk hs
    refine w_seq ?_
    refine w_region ?_
    refine wl_det rfl rfl rfl (op_lss rfl rfl) ?_
    refine wl_nil ?_
    refine st_tn ?_
    refine w_seq ?_
    refine w_cond_d rfl (fun hc15 => ?_) (fun hc15 => ?_)
    · -- c15.t
      obtain ⟨r, hr⟩ := getE (l := rl) (i := i) (by omega)
      have hlt := ltE hr
      have hbr := hb r (List.mem_of_getElem? hr)
      rw [drop_cons hr, selR] at hs
      refine w_skip ?_
      refine st_tn ?_
      refine w_seq ?_
      refine w_block ?_
      refine w_seq ?_
      refine w_region ?_
      refine wl_det rfl rfl rfl (op_idx rfl rfl tS24e (Sl.ent (by first | exact Sl.app (by assumption) _ | exact Sl.app (Sl.app (by assumption) _) _)) (by omega)) ?_
      refine wl_det rfl rfl rfl (op_ldxA rfl tA58e (by first | exact Sl.app (by assumption) _ | exact Sl.app (Sl.app (by assumption) _) _) (by assumption) (by rfl) (by rfl)) ?_
      refine wl_op [] rfl rfl rfl rfl (op_alloc (l := 7) tN58e) ?_
      rintro _ _ ⟨b7, rfl, rfl⟩
      refine wl_op0 [7] rfl rfl rfl (op_store rfl rfl tZ58e (by rfl) (by rfl) (by exact Nat.le_of_ble_eq_true rfl)) ?_
      rintro _ _ ⟨rfl, rfl⟩
      refine wl_nil ?_
      refine st_tn ?_
      refine w_seq ?_
      refine w_seq ?_
      refine w_region ?_
      refine wl_det rfl rfl rfl (op_fieldAddr (off := 1) rfl tF58_1e) ?_
      refine wl_det rfl rfl rfl (op_load1 rfl tO3e (Ent.lab (l := 7) rfl (says_cel 1))) ?_
      refine wl_det rfl rfl rfl (op_fieldAddr (off := 0) rfl tF58_0e) ?_
      refine wl_det rfl rfl rfl (op_load1 rfl tO3e (Ent.lab (l := 7) rfl (says_cel 0))) ?_
      refine wl_det rfl rfl rfl (op_sub' rfl rfl (by omega)) ?_
      refine wl_det rfl rfl rfl (op_add' rfl rfl (by omega)) ?_
      refine wl_det rfl rfl rfl (op_assign rfl) ?_
      refine wl_nil ?_
      refine st_tn ?_
      refine w_seq ?_
      refine w_region ?_
      refine wl_det rfl rfl rfl (op_move rfl) ?_
      refine wl_det rfl rfl rfl (op_move rfl) ?_
      refine wl_det rfl rfl rfl (op_geq rfl rfl) ?_
      refine wl_nil ?_
      refine st_tn ?_
      refine w_cond_d rfl (fun hc26 => ?_) (fun hc26 => ?_)
      · -- c26.t
        refine w_seq ?_
        obtain ⟨q', hq'⟩ : ∃ q', q' = q - (r.2 - r.1 + 1) := ⟨_, rfl⟩
        have hphi : i + 1 ≤ rl.length ∧ 0 ≤ q' ∧ q' ≤ k ∧ selR (rl.drop (i + 1)) q' = selR rl k := ⟨by omega, by omega, by omega, by rw [if_pos hc26] at hs; rw [hq']; exact hs⟩
        refine w_region ?_
        refine wl_det rfl rfl rfl (op_move rfl) ?_
        refine wl_det rfl rfl rfl (op_move rfl) ?_
        refine wl_det rfl rfl rfl (op_sub' rfl rfl (by omega)) ?_
        refine wl_det rfl rfl rfl (op_assign rfl) ?_
        refine wl_nil ?_
        refine st_tn ?_
        refine w_exit ?_
        refine st_te ?_
        refine st_be ?_
        refine st_tn ?_
        refine w_region ?_
        refine wl_det rfl rfl rfl (op_add' rfl rfl (by omega)) ?_
        refine wl_det rfl rfl rfl (op_move rfl) ?_
        refine wl_nil ?_
        rw [← hq']
        refine st_round (x := (i, q)) ((i + 1, q')) [] (hphi) (by show rl.length - (i + 1) < rl.length - i; omega) (.cons rfl (.cons rfl (.cons rfl (.cons rfl (.nil _))))) rfl (rfl) 
      · -- c26.f
        refine w_skip ?_
        refine st_tn ?_
        refine w_seq ?_
        refine w_region ?_
        refine wl_det rfl rfl rfl (op_fieldAddr (off := 0) rfl tF58_0e) ?_
        refine wl_det rfl rfl rfl (op_load1 rfl tO3e (Ent.lab (l := 7) rfl (says_cel 0))) ?_
        refine wl_det rfl rfl rfl (op_move rfl) ?_
        refine wl_det rfl rfl rfl (op_add' rfl rfl (by omega)) ?_
        refine wl_det rfl rfl rfl (op_assign rfl) ?_
        refine wl_det rfl rfl rfl (op_assign rfl) ?_
        refine wl_nil ?_
        refine st_tn ?_
        refine w_ret ?_
        refine st_br ?_
        refine st_tr ?_
        refine st_tr ?_
        refine st_br ?_
        refine st_tr ?_
        refine st_ret (vs := [_, _]) [] Try.results24 ⟨rfl, ⟨rfl, trivial⟩⟩ rfl ?_
        refine ⟨_, rfl, ?_⟩
        refine ⟨?_, rfl⟩; rw [if_neg hc26] at hs; rw [if_neg hc10, ← hs]; rfl
    · -- c15.f
      refine w_exit ?_
      refine st_te ?_
      refine st_te ?_
      refine st_be ?_
      refine st_tn ?_
      refine w_seq ?_
      refine w_region ?_
      refine wl_det rfl rfl rfl (op_assign rfl) ?_
      refine wl_det rfl rfl rfl (op_assign rfl) ?_
      refine wl_nil ?_
      refine st_tn ?_
      refine w_ret ?_
      refine st_ret (vs := [_, _]) [] Try.results24 ⟨rfl, ⟨rfl, trivial⟩⟩ rfl ?_
      refine ⟨_, rfl, ?_⟩
      refine ⟨?_, rfl⟩; rw [drop_all (by omega)] at hs; rw [if_neg hc10, ← hs]; rfl

set_option maxHeartbeats 400000 in
set_option maxRecDepth 100000 in
theorem contains1 {σ : World} {F : List Res} {b : Nat} {row : Int} (hp : Ent σ F (At ⟨b, 0, none⟩ [.int .i64 row])) (r : Run) :
    FnT Try.prog σ F 55 [.agg #[.int .i64 r.1, .int .i64 r.2], .pointer (some ⟨b, 0, none⟩)] [] (fun u ρ => u = .bool (decide (r.1 ≤ row ∧ row ≤ r.2)) ∧ ρ = []) := by
  refine fn_of 14 Try.func55 rfl Try.ntmps55 rfl ?_
  refine w_seq ?_
  refine w_region ?_
  refine wl_op [] rfl rfl rfl rfl (op_box (T := 58) (l := 2) rfl) ?_
  rintro _ _ ⟨b2, rfl, rfl⟩
  refine wl_det rfl rfl rfl (op_assign rfl) ?_
  refine wl_nil ?_
  refine st_tn ?_
  refine w_seq ?_
  refine w_region ?_
  refine wl_det rfl rfl rfl (op_fieldAddr (off := 0) rfl tF58_0e) ?_
  refine wl_det rfl rfl rfl (op_load1 rfl tO3e (Ent.lab (l := 2) rfl (says_cel 0))) ?_
  refine wl_det rfl rfl rfl (op_load1 rfl tO3e (Ent.app hp _)) ?_
  refine wl_det rfl rfl rfl (op_leq rfl rfl) ?_
  refine wl_det rfl rfl rfl (op_move rfl) ?_
  refine wl_gsplit (t := 8) rfl (fun hg8 => ?_) (fun hg8 => ?_)
  · -- 8 is True
    refine wl_wanted_det rfl rfl rfl rfl rfl rfl rfl (op_load1 rfl tO3e (Ent.app hp _)) ?_
    refine wl_wanted_det rfl rfl rfl rfl rfl rfl rfl (op_fieldAddr (off := 1) rfl tF58_1e) ?_
    refine wl_wanted_det rfl rfl rfl rfl rfl rfl rfl (op_load1 rfl tO3e (Ent.lab (l := 2) rfl (says_cel 1))) ?_
    refine wl_wanted_det rfl rfl rfl rfl rfl rfl rfl (op_leq rfl rfl) ?_
    refine wl_det rfl rfl rfl (op_pick_t rfl rfl) ?_
    refine wl_det rfl rfl rfl (op_assign rfl) ?_
    refine wl_nil ?_
    refine st_tn ?_
    refine w_ret ?_
    refine st_ret (vs := [_]) [] Try.results55 ⟨rfl, trivial⟩ rfl ?_
    refine ⟨_, rfl, ?_⟩
    refine ⟨?_, rfl⟩; simp [retv, *]
  · -- 8 is False
    refine wl_unwanted rfl rfl rfl rfl rfl rfl rfl rfl ?_
    refine wl_unwanted rfl rfl rfl rfl rfl rfl rfl rfl ?_
    refine wl_unwanted rfl rfl rfl rfl rfl rfl rfl rfl ?_
    refine wl_unwanted rfl rfl rfl rfl rfl rfl rfl rfl ?_
    refine wl_det rfl rfl rfl (op_pick_f rfl rfl) ?_
    refine wl_det rfl rfl rfl (op_assign rfl) ?_
    refine wl_nil ?_
    refine st_tn ?_
    refine w_ret ?_
    refine st_ret (vs := [_]) [] Try.results55 ⟨rfl, trivial⟩ rfl ?_
    refine ⟨_, rfl, ?_⟩
    refine ⟨?_, rfl⟩; simp [retv, *]

set_option maxHeartbeats 400000 in
set_option maxRecDepth 100000 in
theorem indexFuncR {σ : World} {F : List Res} {a : Option Addr} {c : Nat} {rl : List Run} {g : Nat} {gn : Func} {fs cs : List Value} {p : Run → Bool} (h : Sl σ F encRun 2 (.slice a rl.length c) rl)
    (hg : Try.prog.funcs[g]? = some gn) (hgb : gn.body.isSome = true) (hgn : (gn.name == "runtime.NumGoroutine") = false) (hp : ∀ (X : List Res) (r : Run), FnT Try.prog σ (X ++ F) g (fs ++ [.agg #[.int .i64 r.1, .int .i64 r.2]] ++ cs) [] (fun u ρ => u = .bool (p r) ∧ ρ = [])) :
    FnT Try.prog σ F 75 [.slice a rl.length c, .func (.func g) fs.toArray cs.toArray] [] (fun u ρ => u = .int .i64 (match rl.findIdx? p with | some i => (i : Int) | none => -1) ∧ ρ = []) := by
  refine fn_of 19 Try.func75 rfl Try.ntmps75 rfl ?_
  have hle := h.i64
  refine w_seq ?_
  refine w_region ?_
  refine wl_det rfl rfl rfl (op_assign rfl) ?_
  refine wl_nil ?_
  refine st_tn ?_
  refine w_seq ?_
  refine w_seq ?_
  refine w_region ?_
  refine wl_det rfl rfl rfl (op_move rfl) ?_
  refine wl_det rfl rfl rfl (op_lenT rfl tS24e (Sl.ent (by first | exact Sl.app (by assumption) _ | exact Sl.app (Sl.app (by assumption) _) _))) ?_
  refine wl_det rfl rfl rfl (op_move rfl) ?_
  refine wl_nil ?_
  refine st_tn ?_
  refine w_block ?_
  refine w_loop (X := Nat) (fun i => i ≤ rl.length ∧ ∀ r ∈ rl.take i, p r = false) (fun i => [(0, .slice a rl.length c), (1, .func (.func g) fs.toArray cs.toArray), (7, .int .i64 rl.length), (8, .int .i64 i)]) (fun _ => []) (fun i => rl.length - i) (0) (⟨Nat.zero_le _, by simp⟩) (.cons rfl (.cons rfl (.cons rfl (.cons rfl (.nil _))))) ⟨[], _, _, rfl, rfl⟩ ?_
  rintro i ⟨hi, hn⟩
  refine w_seq ?_
  refine w_region ?_
  refine wl_det rfl rfl rfl (op_lss rfl rfl) ?_
  refine wl_nil ?_
  refine st_tn ?_
  refine w_seq ?_
  refine w_cond_d rfl (fun hc9 => ?_) (fun hc9 => ?_)
  · -- c9.t
    obtain ⟨r, hr⟩ := getE (l := rl) (i := i) (by omega)
    have hlt := ltE hr
    refine w_skip ?_
    refine st_tn ?_
    refine w_seq ?_
    refine w_block ?_
    refine w_seq ?_
    refine w_region ?_
    refine wl_det rfl rfl rfl (op_move rfl) ?_
    refine wl_det rfl rfl rfl (op_assign rfl) ?_
    refine wl_nil ?_
    refine st_tn ?_
    refine w_seq ?_
    refine w_region ?_
    refine wl_det rfl rfl rfl (op_move rfl) ?_
    refine wl_det rfl rfl rfl (op_move rfl) ?_
    refine wl_det rfl rfl rfl (op_move rfl) ?_
    refine wl_det rfl rfl rfl (op_idx rfl rfl tS24e (Sl.ent (by first | exact Sl.app (by assumption) _ | exact Sl.app (Sl.app (by assumption) _) _)) (by omega)) ?_
    refine wl_det rfl rfl rfl (op_ldxA rfl tA58e (by first | exact Sl.app (by assumption) _ | exact Sl.app (Sl.app (by assumption) _) _) (by assumption) (by rfl) (by rfl)) ?_
    refine wl_det rfl rfl rfl (op_fnv hg hgb hgn rfl rfl (hp _ r)) ?_
    refine wl_nil ?_
    refine st_tn ?_
    refine w_cond rfl (fun hc16 => ?_) (fun hc16 => ?_)
    · -- c16.t
      refine w_seq ?_
      refine w_region ?_
      refine wl_det rfl rfl rfl (op_move rfl) ?_
      refine wl_det rfl rfl rfl (op_assign rfl) ?_
      refine wl_nil ?_
      refine st_tn ?_
      refine w_ret ?_
      refine st_br ?_
      refine st_tr ?_
      refine st_tr ?_
      refine st_br ?_
      refine st_tr ?_
      refine st_ret (vs := [_]) [] Try.results75 ⟨rfl, trivial⟩ rfl ?_
      refine ⟨_, rfl, ?_⟩
      refine ⟨?_, rfl⟩
      have : rl.findIdx? p = some i := by
        rw [List.findIdx?_eq_some_iff_getElem]
        obtain ⟨hlt', hge⟩ := List.getElem?_eq_some_iff.1 hr
        refine ⟨hlt', by rw [hge]; exact hc16, fun j hj => ?_⟩
        rw [hn _ (List.mem_take_iff_getElem.2 ⟨j, by omega, rfl⟩)]; simp
      rw [this]; rfl
    · -- c16.f
      refine w_skip ?_
      refine st_bn ?_
      refine st_tn ?_
      refine w_region ?_
      refine wl_det rfl rfl rfl (op_add' rfl rfl (by omega)) ?_
      refine wl_det rfl rfl rfl (op_move rfl) ?_
      refine wl_nil ?_
      refine st_round (x := i) (i + 1) [] (⟨by omega, by rw [take_snoc hr]; intro q hq; rcases List.mem_append.1 hq with hq | hq; (· exact hn q hq); (· simp at hq; subst hq; exact hc16)⟩) (by omega) (.cons rfl (.cons rfl (.cons rfl (.cons rfl (.nil _))))) rfl (rfl) 
  · -- c9.f
    refine w_exit ?_
    refine st_te ?_
    refine st_te ?_
    refine st_be ?_
    refine st_tn ?_
    refine w_seq ?_
    refine w_region ?_
    refine wl_det rfl rfl rfl (op_assign rfl) ?_
    refine wl_nil ?_
    refine st_tn ?_
    refine w_ret ?_
    refine st_ret (vs := [_]) [] Try.results75 ⟨rfl, trivial⟩ rfl ?_
    refine ⟨_, rfl, ?_⟩
    refine ⟨?_, rfl⟩; rw [take_all (by omega)] at hn
    have : rl.findIdx? p = none := by rw [List.findIdx?_eq_none_iff]; exact hn
    rw [this]; rfl

set_option maxHeartbeats 400000 in
set_option maxRecDepth 100000 in
theorem containsFuncR {σ : World} {F : List Res} {a : Option Addr} {c : Nat} {rl : List Run} {g : Nat} {gn : Func} {fs cs : List Value} {p : Run → Bool} (h : Sl σ F encRun 2 (.slice a rl.length c) rl)
    (hg : Try.prog.funcs[g]? = some gn) (hgb : gn.body.isSome = true) (hgn : (gn.name == "runtime.NumGoroutine") = false) (hp : ∀ (X : List Res) (r : Run), FnT Try.prog σ (X ++ F) g (fs ++ [.agg #[.int .i64 r.1, .int .i64 r.2]] ++ cs) [] (fun u ρ => u = .bool (p r) ∧ ρ = [])) :
    FnT Try.prog σ F 54 [.slice a rl.length c, .func (.func g) fs.toArray cs.toArray] [] (fun u ρ => u = .bool (rl.any p) ∧ ρ = []) := by
  refine fn_of 9 Try.func54 rfl Try.ntmps54 rfl ?_
  refine w_seq ?_
  refine w_region ?_
  refine wl_det rfl rfl rfl (op_assign rfl) ?_
  refine wl_nil ?_
  refine st_tn ?_
  refine w_seq ?_
  refine w_region ?_
  refine wl_det rfl rfl rfl (op_move rfl) ?_
  refine wl_det rfl rfl rfl (op_move rfl) ?_
  refine wl_det rfl rfl rfl (op_fn Try.func75 rfl rfl rfl (indexFuncR (Sl.app h _) hg hgb hgn (fun X r => by simpa using hp (X ++ rs []) r))) ?_
  refine wl_det rfl rfl rfl (op_geq rfl rfl) ?_
  refine wl_det rfl rfl rfl (op_assign rfl) ?_
  refine wl_nil ?_
  refine st_tn ?_
  refine w_ret ?_
  refine st_ret (vs := [_]) [] Try.results54 ⟨rfl, trivial⟩ rfl ?_
  refine ⟨_, rfl, ?_⟩
  refine ⟨?_, rfl⟩
  cases hf : rl.findIdx? p with
  | none => rw [List.findIdx?_eq_none_iff] at hf; simp [retv]; intro x y hx; exact hf (x, y) hx
  | some i => obtain ⟨hlt, h1, _⟩ := List.findIdx?_eq_some_iff_getElem.1 hf; simp [retv]; exact ⟨_, _, List.getElem_mem hlt, h1⟩

end Go.Proofs.Ytkknlfhncheflaa
