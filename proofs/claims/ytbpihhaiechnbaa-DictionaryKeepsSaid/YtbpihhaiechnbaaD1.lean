/- Contracts: comparing, searching and listing strings (layer 6). Conditions: none. -/
import Derived.Test.YtbpihhaiechnbaaProg
import Derived.Test.YtbpihhaiechnbaaM0
import Derived.Test.YtbpihhaiechnbaaSlT
import Derived.Test.YtbpihhaiechnbaaSlM
namespace Go.Proofs.Ytbpihhaiechnbaa
open Go Go.SL Go.RowKit Go.DicM
set_option linter.unusedVariables false
set_option linter.unusedSimpArgs false
theorem tMixa : Try.prog.follows .mixedOrders = true := by kernel_rfl
theorem tO3a : oneB Try.prog 3 = true := by kernel_rfl
theorem tO9a : oneB Try.prog 9 = true := by kernel_rfl
theorem tS22a : sliceB Try.prog 22 9 1 = true := by kernel_rfl
theorem tS31a : sliceB Try.prog 31 3 1 = true := by kernel_rfl

set_option maxHeartbeats 400000 in
set_option maxRecDepth 100000 in
theorem cNaN_any {σ : World} {F : List Res} (s : Bs) :
    FnT Try.prog σ F 70 [.string (str s)] [] (fun u ρ => u = .bool false ∧ ρ = []) := by
  refine fn_of 6 Try.func70 rfl Try.ntmps70 rfl ?_
  refine w_seq ?_
  refine w_region ?_
  refine wl_det rfl rfl rfl (op_assign rfl) ?_
  refine wl_nil ?_
  refine st_tn ?_
  refine w_seq ?_
  refine w_region ?_
  refine wl_det rfl rfl rfl (op_move rfl) ?_
  refine wl_det rfl rfl rfl (op_move rfl) ?_
  refine wl_det rfl rfl rfl (op_neBs rfl rfl) ?_
  refine wl_det rfl rfl rfl (op_assign rfl) ?_
  refine wl_nil ?_
  refine st_tn ?_
  refine w_ret ?_
  refine st_ret (vs := [_]) [] Try.results70 ⟨rfl, trivial⟩ rfl ?_
  refine ⟨_, rfl, ?_⟩
  simp [retv]

set_option maxHeartbeats 400000 in
set_option maxRecDepth 100000 in
theorem sNaN_any {σ : World} {F : List Res} (s : Bs) :
    FnT Try.prog σ F 58 [.string (str s)] [] (fun u ρ => u = .bool false ∧ ρ = []) := by
  refine fn_of 6 Try.func58 rfl Try.ntmps58 rfl ?_
  refine w_seq ?_
  refine w_region ?_
  refine wl_det rfl rfl rfl (op_assign rfl) ?_
  refine wl_nil ?_
  refine st_tn ?_
  refine w_seq ?_
  refine w_region ?_
  refine wl_det rfl rfl rfl (op_move rfl) ?_
  refine wl_det rfl rfl rfl (op_move rfl) ?_
  refine wl_det rfl rfl rfl (op_neBs rfl rfl) ?_
  refine wl_det rfl rfl rfl (op_assign rfl) ?_
  refine wl_nil ?_
  refine st_tn ?_
  refine w_ret ?_
  refine st_ret (vs := [_]) [] Try.results58 ⟨rfl, trivial⟩ rfl ?_
  refine ⟨_, rfl, ?_⟩
  simp [retv]

-- CALL slices.isNaN[string] known=false sNaN_any _
set_option maxHeartbeats 400000 in
set_option maxRecDepth 100000 in
theorem less_any {σ : World} {F : List Res} (s t : Bs) :
    FnT Try.prog σ F 57 [.string (str s), .string (str t)] [] (fun u ρ => u = .bool (decide (s < t)) ∧ ρ = []) := by
  refine fn_of 17 Try.func57 rfl Try.ntmps57 rfl ?_
  refine w_seq ?_
  refine w_region ?_
  refine wl_det rfl rfl rfl (op_assign rfl) ?_
  refine wl_nil ?_
  refine st_tn ?_
  refine w_seq ?_
  refine w_region ?_
  refine wl_det rfl rfl rfl (op_move rfl) ?_
  refine wl_det rfl rfl rfl (op_fn Try.func70 rfl rfl rfl (cNaN_any _)) ?_
  refine wl_det rfl rfl rfl (op_move rfl) ?_
  refine wl_unwanted rfl rfl rfl rfl rfl rfl rfl rfl ?_
  refine wl_unwanted rfl rfl rfl rfl rfl rfl rfl rfl ?_
  refine wl_unwanted rfl rfl rfl rfl rfl rfl rfl rfl ?_
  refine wl_det rfl rfl rfl (op_pick_f rfl rfl) ?_
  refine wl_det rfl rfl rfl (op_move rfl) ?_
  refine wl_wanted_det rfl rfl rfl rfl rfl rfl rfl (op_move rfl) ?_
  refine wl_wanted_det rfl rfl rfl rfl rfl rfl rfl (op_move rfl) ?_
  refine wl_wanted_det rfl rfl rfl rfl rfl rfl rfl (op_ltBs rfl rfl) ?_
  refine wl_det rfl rfl rfl (op_pick_f rfl rfl) ?_
  refine wl_det rfl rfl rfl (op_assign rfl) ?_
  refine wl_nil ?_
  refine st_tn ?_
  refine w_ret ?_
  refine st_ret (vs := [_]) [] Try.results57 ⟨rfl, trivial⟩ rfl ?_
  refine ⟨_, rfl, ?_⟩
  exact ⟨rfl, rfl⟩

-- CALL cmp.Less[string] less_any _ _
set_option maxHeartbeats 400000 in
set_option maxRecDepth 100000 in
theorem hasP0_any {σ : World} {F : List Res} (s t : Bs) :
    FnT Try.prog σ F 59 [.string (str s), .string (str t)] [] (fun u ρ => u = .bool (decide (t.length ≤ s.length ∧ s.take t.length = t)) ∧ ρ = []) := by
  refine fn_of 18 Try.func59 rfl Try.ntmps59 rfl ?_
  refine w_seq ?_
  refine w_region ?_
  refine wl_det rfl rfl rfl (op_assign rfl) ?_
  refine wl_nil ?_
  refine st_tn ?_
  refine w_seq ?_
  refine w_region ?_
  refine wl_det rfl rfl rfl (op_move rfl) ?_
  refine wl_det rfl rfl rfl (op_lenBs rfl Try.underlying9) ?_
  refine wl_det rfl rfl rfl (op_move rfl) ?_
  refine wl_det rfl rfl rfl (op_lenBs rfl Try.underlying9) ?_
  refine wl_det rfl rfl rfl (op_geq rfl rfl) ?_
  refine wl_det rfl rfl rfl (op_move rfl) ?_
  refine wl_gsplit (t := 10) rfl (fun hg10 => ?_) (fun hg10 => ?_)
  · -- 10 is True
    refine wl_wanted_det rfl rfl rfl rfl rfl rfl rfl (op_move rfl) ?_
    refine wl_wanted_det rfl rfl rfl rfl rfl rfl rfl (op_move rfl) ?_
    refine wl_wanted_det rfl rfl rfl rfl rfl rfl rfl (op_lenBs rfl Try.underlying9) ?_
    refine wl_wanted_det rfl rfl rfl rfl rfl rfl rfl (op_sliceRBs rfl rfl Try.underlying9 (by omega)) ?_
    refine wl_wanted_det rfl rfl rfl rfl rfl rfl rfl (op_move rfl) ?_
    refine wl_wanted_det rfl rfl rfl rfl rfl rfl rfl (op_eqBs rfl rfl) ?_
    refine wl_det rfl rfl rfl (op_pick_t rfl rfl) ?_
    refine wl_det rfl rfl rfl (op_assign rfl) ?_
    refine wl_nil ?_
    refine st_tn ?_
    refine w_ret ?_
    refine st_ret (vs := [_]) [] Try.results59 ⟨rfl, trivial⟩ rfl ?_
    refine ⟨_, rfl, ?_⟩
    first | (simp [retv, *]; done) | (simp [retv, *]; omega) | (refine ⟨?_, rfl⟩; simp only [retv]; congr 1; simp [*]; omega)
  · -- 10 is False
    refine wl_unwanted rfl rfl rfl rfl rfl rfl rfl rfl ?_
    refine wl_unwanted rfl rfl rfl rfl rfl rfl rfl rfl ?_
    refine wl_unwanted rfl rfl rfl rfl rfl rfl rfl rfl ?_
    refine wl_unwanted rfl rfl rfl rfl rfl rfl rfl rfl ?_
    refine wl_unwanted rfl rfl rfl rfl rfl rfl rfl rfl ?_
    refine wl_unwanted rfl rfl rfl rfl rfl rfl rfl rfl ?_
    refine wl_det rfl rfl rfl (op_pick_f rfl rfl) ?_
    refine wl_det rfl rfl rfl (op_assign rfl) ?_
    refine wl_nil ?_
    refine st_tn ?_
    refine w_ret ?_
    refine st_ret (vs := [_]) [] Try.results59 ⟨rfl, trivial⟩ rfl ?_
    refine ⟨_, rfl, ?_⟩
    first | (simp [retv, *]; done) | (simp [retv, *]; omega) | (refine ⟨?_, rfl⟩; simp only [retv]; congr 1; simp [*]; omega)

-- CALL internal/stringslite.HasPrefix hasP0_any _ _
set_option maxHeartbeats 400000 in
set_option maxRecDepth 100000 in
theorem hasP_any {σ : World} {F : List Res} (s t : Bs) :
    FnT Try.prog σ F 50 [.string (str s), .string (str t)] [] (fun u ρ => u = .bool (decide (t.length ≤ s.length ∧ s.take t.length = t)) ∧ ρ = []) := by
  refine fn_of 8 Try.func50 rfl Try.ntmps50 rfl ?_
  refine w_seq ?_
  refine w_region ?_
  refine wl_det rfl rfl rfl (op_assign rfl) ?_
  refine wl_nil ?_
  refine st_tn ?_
  refine w_seq ?_
  refine w_region ?_
  refine wl_det rfl rfl rfl (op_move rfl) ?_
  refine wl_det rfl rfl rfl (op_move rfl) ?_
  refine wl_det rfl rfl rfl (op_fn Try.func59 rfl rfl rfl (hasP0_any _ _)) ?_
  refine wl_det rfl rfl rfl (op_assign rfl) ?_
  refine wl_nil ?_
  refine st_tn ?_
  refine w_ret ?_
  refine st_ret (vs := [_]) [] Try.results50 ⟨rfl, trivial⟩ rfl ?_
  refine ⟨_, rfl, ?_⟩
  exact ⟨rfl, rfl⟩

-- CALL strings.HasPrefix hasP_any _ _
set_option maxHeartbeats 400000 in
set_option maxRecDepth 100000 in
theorem bsearch_any {σ : World} {F : List Res} {a : Option Addr} {c : Nat} {l : List Bs} (s : Bs) (h : Sl σ F encT 1 (.slice a l.length c) l) (hd : Inc l) (hl : l.length ≤ 1099511627776) :
    FnT Try.prog σ F 49 [.slice a l.length c, .string (str s)] [] (fun u ρ => u = .tuple #[.int .i64 (lower l s), .bool (decide (l[lower l s]? = some s))] ∧ ρ = []) := by
  refine fn_of 54 Try.func49 rfl Try.ntmps49 rfl ?_
  have hle := h.i64
  refine w_seq ?_
  refine w_region ?_
  refine wl_det rfl rfl rfl (op_assign rfl) ?_
  refine wl_det rfl rfl rfl (op_assign rfl) ?_
  refine wl_nil ?_
  refine st_tn ?_
  refine w_seq ?_
  refine w_region ?_
  refine wl_det rfl rfl rfl (op_move rfl) ?_
  refine wl_det rfl rfl rfl (op_lenT rfl tS22a (Sl.ent (by first | exact Sl.app (by assumption) _ | exact Sl.app (Sl.app (by assumption) _) _))) ?_
  refine wl_det rfl rfl rfl (op_assign rfl) ?_
  refine wl_nil ?_
  refine st_tn ?_
  refine w_seq ?_
  refine w_region ?_
  refine wl_det rfl rfl rfl (op_move rfl) ?_
  refine wl_det rfl rfl rfl (op_assign rfl) ?_
  refine wl_det rfl rfl rfl (op_assign rfl) ?_
  refine wl_nil ?_
  refine st_tn ?_
  refine w_seq ?_
  refine w_block ?_
  refine w_loopQ (X := Nat × Nat) (fun z => z.1 ≤ z.2 ∧ z.2 ≤ l.length ∧ (∀ k x, k < z.1 → l[k]? = some x → x < s) ∧ (∀ k x, z.2 ≤ k → l[k]? = some x → ¬ x < s)) (fun z => [(7, .int .i64 (z.1)), (8, .int .i64 (z.2))]) (fun _ => []) (fun z => z.2 - z.1) ((0, l.length)) [(0, _), (1, _), (6, _)] [] [] rfl (rfl) (.cons rfl (.cons rfl (.nil _))) (.cons rfl (.cons rfl (.cons rfl (.nil _)))) (by
      try dsimp only
      exact ⟨Nat.zero_le _, Nat.le_refl _, fun k x hk => by omega, fun k x hk hx => by rw [List.getElem?_eq_none (by omega)] at hx; simp at hx⟩) ?_
  rintro ⟨i, j⟩ ⟨hij, hj, h1, h2⟩
  refine w_norm2 (by dsimp only [List.cons_append, List.nil_append]) (by dsimp only [List.cons_append, List.nil_append]) ?_
  try dsimp only at hij hj h1 h2 ⊢
  refine w_seq ?_
  refine w_seq ?_
  refine w_region ?_
  refine wl_det rfl rfl rfl (op_move rfl) ?_
  refine wl_det rfl rfl rfl (op_move rfl) ?_
  refine wl_det rfl rfl rfl (op_lss rfl rfl) ?_
  refine wl_nil ?_
  refine st_tn ?_
  refine w_cond_d rfl (fun hc15 => ?_) (fun hc15 => ?_)
  · -- c15.t
    obtain ⟨x, hx⟩ := getE (l := l) (i := (i + j) / 2) (by omega)
    refine w_skip ?_
    refine st_tn ?_
    refine w_block ?_
    refine w_seq ?_
    refine w_region ?_
    refine wl_det rfl rfl rfl (op_move rfl) ?_
    refine wl_det rfl rfl rfl (op_move rfl) ?_
    refine wl_det rfl rfl rfl (op_add' rfl rfl (by omega)) ?_
    refine wl_det rfl rfl rfl (op_convU64 rfl (by rw [Try.underlying3]; rfl) Try.underlying67 (by omega)) ?_
    refine wl_det rfl rfl rfl (op_val (v' := .int .u64 (((i + j) / 2 : Nat) : Int)) (by congr 1) (op_shrN rfl rfl (by omega) (by omega))) ?_
    refine wl_det rfl rfl rfl (op_convI64 rfl (by rw [Try.underlying67]; rfl) Try.underlying3 (by omega)) ?_
    refine wl_det rfl rfl rfl (op_assign rfl) ?_
    refine wl_nil ?_
    refine st_tn ?_
    refine w_seq ?_
    refine w_region ?_
    refine wl_det rfl rfl rfl (op_move rfl) ?_
    refine wl_det rfl rfl rfl (op_move rfl) ?_
    refine wl_det rfl rfl rfl (op_idx rfl rfl tS22a (Sl.ent (by first | exact Sl.app (by assumption) _ | exact Sl.app (Sl.app (by assumption) _) _)) (by omega)) ?_
    refine wl_det rfl rfl rfl (op_ldx rfl tO9a (by first | exact Sl.app (by assumption) _ | exact Sl.app (Sl.app (by assumption) _) _) (by assumption) (by rfl)) ?_
    refine wl_det rfl rfl rfl (op_move rfl) ?_
    refine wl_det rfl rfl rfl (op_fn Try.func57 rfl rfl rfl (less_any _ _)) ?_
    refine wl_nil ?_
    refine st_tn ?_
    refine w_cond_d rfl (fun hc27 => ?_) (fun hc27 => ?_)
    · -- c27.t
      refine w_region ?_
      refine wl_det rfl rfl rfl (op_move rfl) ?_
      refine wl_det rfl rfl rfl (op_add' rfl rfl (by omega)) ?_
      refine wl_det rfl rfl rfl (op_assign rfl) ?_
      refine wl_nil ?_
      refine st_bn ?_
      refine st_roundQ (x := (i, j)) (((i + j) / 2 + 1, j)) [] rfl (rfl) (.cons rfl (.cons rfl (.nil _))) (.cons rfl (.cons rfl (.cons rfl (.nil _)))) (by
          try dsimp only
          exact ⟨by omega, hj, fun k y hk hy => by
          rcases Nat.lt_or_eq_of_le (Nat.le_of_lt_succ hk) with hk | hk
          · exact lt_trans (hd.get hy hx hk) hc27
          · subst hk; rw [hx] at hy; simp at hy; subst hy; exact hc27, h2⟩) (by
          try dsimp only
          omega) 
    · -- c27.f
      refine w_region ?_
      refine wl_det rfl rfl rfl (op_move rfl) ?_
      refine wl_det rfl rfl rfl (op_assign rfl) ?_
      refine wl_nil ?_
      refine st_bn ?_
      refine st_roundQ (x := (i, j)) ((i, (i + j) / 2)) [] rfl (rfl) (.cons rfl (.cons rfl (.nil _))) (.cons rfl (.cons rfl (.cons rfl (.nil _)))) (by
          try dsimp only
          exact ⟨by omega, by omega, h1, fun k y hk hy hlt => by
          rcases Nat.lt_or_eq_of_le hk with hk | hk
          · exact hc27 (lt_trans (hd.get hx hy hk) hlt)
          · subst hk; rw [hx] at hy; simp at hy; subst hy; exact hc27 hlt⟩) (by
          try dsimp only
          omega) 
  · -- c15.f
    refine w_exit ?_
    refine st_te ?_
    refine st_te ?_
    refine st_be ?_
    refine st_tn ?_
    refine w_seq ?_
    have hk : lower l s = i := lower_of (by omega) h1 (fun x hx => h2 i x (by omega) hx)
    refine w_region ?_
    refine wl_det rfl rfl rfl (op_move rfl) ?_
    refine wl_det rfl rfl rfl (op_move rfl) ?_
    refine wl_det rfl rfl rfl (op_move rfl) ?_
    refine wl_det rfl rfl rfl (op_lss rfl rfl) ?_
    refine wl_det rfl rfl rfl (op_move rfl) ?_
    refine wl_gsplit (t := 35) rfl (fun hg35 => ?_) (fun hg35 => ?_)
    · -- 35 is True
      obtain ⟨x, hx⟩ := getE (l := l) (i := i) (by omega)
      refine wl_wanted_det rfl rfl rfl rfl rfl rfl rfl (op_move rfl) ?_
      refine wl_wanted_det rfl rfl rfl rfl rfl rfl rfl (op_move rfl) ?_
      refine wl_wanted_det rfl rfl rfl rfl rfl rfl rfl (op_idx rfl rfl tS22a (Sl.ent (by first | exact Sl.app (by assumption) _ | exact Sl.app (Sl.app (by assumption) _) _)) (by omega)) ?_
      refine wl_wanted_det rfl rfl rfl rfl rfl rfl rfl (op_ldx rfl tO9a (by first | exact Sl.app (by assumption) _ | exact Sl.app (Sl.app (by assumption) _) _) (by assumption) (by rfl)) ?_
      refine wl_wanted_det rfl rfl rfl rfl rfl rfl rfl (op_move rfl) ?_
      refine wl_wanted_det rfl rfl rfl rfl rfl rfl rfl (op_eqBs rfl rfl) ?_
      refine wl_wanted_det rfl rfl rfl rfl rfl rfl rfl (op_move rfl) ?_
      refine wl_gsplit (t := 42) rfl (fun hg42 => ?_) (fun hg42 => ?_)
      · -- 42 is True
        refine wl_unwanted rfl rfl rfl rfl rfl rfl rfl rfl ?_
        refine wl_unwanted rfl rfl rfl rfl rfl rfl rfl rfl ?_
        refine wl_unwanted rfl rfl rfl rfl rfl rfl rfl rfl ?_
        refine wl_unwanted rfl rfl rfl rfl rfl rfl rfl rfl ?_
        refine wl_unwanted rfl rfl rfl rfl rfl rfl rfl rfl ?_
        refine wl_unwanted rfl rfl rfl rfl rfl rfl rfl rfl ?_
        refine wl_unwantedU rfl rfl rfl rfl rfl rfl rfl ?_
        refine wl_unwantedU rfl rfl rfl rfl rfl rfl rfl ?_
        refine wl_unwanted rfl rfl rfl rfl rfl rfl rfl rfl ?_
        refine wl_wanted_det rfl rfl rfl rfl rfl rfl rfl (op_pick_t rfl rfl) ?_
        refine wl_det rfl rfl rfl (op_pick_t rfl rfl) ?_
        refine wl_det rfl rfl rfl (op_assign rfl) ?_
        refine wl_det rfl rfl rfl (op_assign rfl) ?_
        refine wl_nil ?_
        refine st_tn ?_
        refine w_ret ?_
        refine st_ret (vs := [_, _]) [] Try.results49 ⟨rfl, ⟨rfl, trivial⟩⟩ rfl ?_
        refine ⟨_, rfl, ?_⟩
        refine ⟨?_, rfl⟩; rw [hk]; first | (simp [retv, *]; done) | (have hnn : l[i]? = none := List.getElem?_eq_none (by omega); simp [retv, hnn])
      · -- 42 is False
        refine wl_wanted_det rfl rfl rfl rfl rfl rfl rfl (op_move rfl) ?_
        refine wl_wanted_det rfl rfl rfl rfl rfl rfl rfl (op_move rfl) ?_
        refine wl_wanted_det rfl rfl rfl rfl rfl rfl rfl (op_idx rfl rfl tS22a (Sl.ent (by first | exact Sl.app (by assumption) _ | exact Sl.app (Sl.app (by assumption) _) _)) (by omega)) ?_
        refine wl_wanted_det rfl rfl rfl rfl rfl rfl rfl (op_ldx rfl tO9a (by first | exact Sl.app (by assumption) _ | exact Sl.app (Sl.app (by assumption) _) _) (by assumption) (by rfl)) ?_
        refine wl_wanted_det rfl rfl rfl rfl rfl rfl rfl (op_fn Try.func58 rfl rfl rfl (sNaN_any _)) ?_
        refine wl_wanted_det rfl rfl rfl rfl rfl rfl rfl (op_move rfl) ?_
        refine wl_unwanted rfl rfl rfl rfl rfl rfl rfl rfl ?_
        refine wl_unwanted rfl rfl rfl rfl rfl rfl rfl rfl ?_
        refine wl_wanted_det rfl rfl rfl rfl rfl rfl rfl (op_pick_f rfl rfl) ?_
        refine wl_wanted_det rfl rfl rfl rfl rfl rfl rfl (op_pick_f rfl rfl) ?_
        refine wl_det rfl rfl rfl (op_pick_t rfl rfl) ?_
        refine wl_det rfl rfl rfl (op_assign rfl) ?_
        refine wl_det rfl rfl rfl (op_assign rfl) ?_
        refine wl_nil ?_
        refine st_tn ?_
        refine w_ret ?_
        refine st_ret (vs := [_, _]) [] Try.results49 ⟨rfl, ⟨rfl, trivial⟩⟩ rfl ?_
        refine ⟨_, rfl, ?_⟩
        refine ⟨?_, rfl⟩; rw [hk]; first | (simp [retv, *]; done) | (have hnn : l[i]? = none := List.getElem?_eq_none (by omega); simp [retv, hnn])
    · -- 35 is False
      refine wl_unwanted rfl rfl rfl rfl rfl rfl rfl rfl ?_
      refine wl_unwanted rfl rfl rfl rfl rfl rfl rfl rfl ?_
      refine wl_unwanted rfl rfl rfl rfl rfl rfl rfl rfl ?_
      refine wl_unwanted rfl rfl rfl rfl rfl rfl rfl rfl ?_
      refine wl_unwanted rfl rfl rfl rfl rfl rfl rfl rfl ?_
      refine wl_unwanted rfl rfl rfl rfl rfl rfl rfl rfl ?_
      refine wl_unwanted rfl rfl rfl rfl rfl rfl rfl rfl ?_
      refine wl_unwantedU rfl rfl rfl rfl rfl rfl rfl ?_
      refine wl_unwantedU rfl rfl rfl rfl rfl rfl rfl ?_
      refine wl_unwantedU rfl rfl rfl rfl rfl rfl rfl ?_
      refine wl_unwantedU rfl rfl rfl rfl rfl rfl rfl ?_
      refine wl_unwantedU rfl rfl rfl rfl rfl rfl rfl ?_
      refine wl_unwantedU rfl rfl rfl rfl rfl rfl rfl ?_
      refine wl_unwantedU rfl rfl rfl rfl rfl rfl rfl ?_
      refine wl_unwantedU rfl rfl rfl rfl rfl rfl rfl ?_
      refine wl_unwantedU rfl rfl rfl rfl rfl rfl rfl ?_
      refine wl_unwanted rfl rfl rfl rfl rfl rfl rfl rfl ?_
      refine wl_det rfl rfl rfl (op_pick_f rfl rfl) ?_
      refine wl_det rfl rfl rfl (op_assign rfl) ?_
      refine wl_det rfl rfl rfl (op_assign rfl) ?_
      refine wl_nil ?_
      refine st_tn ?_
      refine w_ret ?_
      refine st_ret (vs := [_, _]) [] Try.results49 ⟨rfl, ⟨rfl, trivial⟩⟩ rfl ?_
      refine ⟨_, rfl, ?_⟩
      refine ⟨?_, rfl⟩; rw [hk]; first | (simp [retv, *]; done) | (have hnn : l[i]? = none := List.getElem?_eq_none (by omega); simp [retv, hnn])

-- CALL slices.BinarySearch[[]string,string] bsearch_any _ {s0} (by assumption) (by omega)
set_option maxHeartbeats 400000 in
set_option maxRecDepth 100000 in
theorem rlower_any {σ : World} {F : List Res} {a : Option Addr} {c : Nat} {l : List Bs} (s : Bs) (h : Sl σ F encT 1 (.slice a l.length c) l) :
    FnT Try.prog σ F 25 [.slice a l.length c, .string (str s)] [] (fun u ρ => u = .int .i64 (lower l s) ∧ ρ = []) := by
  refine fn_of 21 Try.func25 rfl Try.ntmps25 rfl ?_
  have hle := h.i64
  refine w_seq ?_
  refine w_region ?_
  refine wl_det rfl rfl rfl (op_assign rfl) ?_
  refine wl_nil ?_
  refine st_tn ?_
  refine w_seq ?_
  refine w_region ?_
  refine wl_det rfl rfl rfl (op_assign rfl) ?_
  refine wl_nil ?_
  refine st_tn ?_
  refine w_seq ?_
  refine w_block ?_
  refine w_loopQ (X := Nat) (fun z => z ≤ l.length ∧ ∀ k x, k < z → l[k]? = some x → x < s) (fun z => [(5, .int .i64 (z))]) (fun _ => []) (fun z => l.length - z) (0) [(0, _), (1, _)] [] [] rfl (rfl) (.cons rfl (.nil _)) (.cons rfl (.cons rfl (.nil _))) (by
      try dsimp only
      exact ⟨Nat.zero_le _, fun k x hk => by omega⟩) ?_
  rintro i ⟨hi, h1⟩
  refine w_norm2 (by dsimp only [List.cons_append, List.nil_append]) (by dsimp only [List.cons_append, List.nil_append]) ?_
  try dsimp only at hi h1 ⊢
  refine w_seq ?_
  refine w_seq ?_
  refine w_region ?_
  refine wl_det rfl rfl rfl (op_move rfl) ?_
  refine wl_det rfl rfl rfl (op_move rfl) ?_
  refine wl_det rfl rfl rfl (op_lenT rfl tS22a (Sl.ent (by first | exact Sl.app (by assumption) _ | exact Sl.app (Sl.app (by assumption) _) _))) ?_
  refine wl_det rfl rfl rfl (op_lss rfl rfl) ?_
  refine wl_det rfl rfl rfl (op_move rfl) ?_
  refine wl_gsplit (t := 10) rfl (fun hg10 => ?_) (fun hg10 => ?_)
  · -- 10 is True
    obtain ⟨x, hx⟩ := getE (l := l) (i := i) (by omega)
    refine wl_wanted_det rfl rfl rfl rfl rfl rfl rfl (op_move rfl) ?_
    refine wl_wanted_det rfl rfl rfl rfl rfl rfl rfl (op_move rfl) ?_
    refine wl_wanted_det rfl rfl rfl rfl rfl rfl rfl (op_idx rfl rfl tS22a (Sl.ent (by first | exact Sl.app (by assumption) _ | exact Sl.app (Sl.app (by assumption) _) _)) (by omega)) ?_
    refine wl_wanted_det rfl rfl rfl rfl rfl rfl rfl (op_ldx rfl tO9a (by first | exact Sl.app (by assumption) _ | exact Sl.app (Sl.app (by assumption) _) _) (by assumption) (by rfl)) ?_
    refine wl_wanted_det rfl rfl rfl rfl rfl rfl rfl (op_move rfl) ?_
    refine wl_wanted_det rfl rfl rfl rfl rfl rfl rfl (op_ltBs rfl rfl) ?_
    refine wl_det rfl rfl rfl (op_pick_t rfl rfl) ?_
    refine wl_nil ?_
    refine st_tn ?_
    refine w_cond_d rfl (fun hc17 => ?_) (fun hc17 => ?_)
    · -- c17.t
      refine w_skip ?_
      refine st_tn ?_
      refine w_block ?_
      refine w_region ?_
      refine wl_det rfl rfl rfl (op_move rfl) ?_
      refine wl_det rfl rfl rfl (op_add' rfl rfl (by omega)) ?_
      refine wl_det rfl rfl rfl (op_assign rfl) ?_
      refine wl_nil ?_
      refine st_bn ?_
      refine st_roundQ (x := i) (i + 1) [] rfl (rfl) (.cons rfl (.nil _)) (.cons rfl (.cons rfl (.nil _))) (by
          try dsimp only
          exact ⟨by omega, fun k y hk hy => by
          rcases Nat.lt_or_eq_of_le (Nat.le_of_lt_succ hk) with hk | hk
          · exact h1 k y hk hy
          · subst hk; rw [hx] at hy; simp at hy; subst hy; exact hc17⟩) (by
          try dsimp only
          omega) 
    · -- c17.f
      refine w_exit ?_
      refine st_te ?_
      refine st_te ?_
      refine st_be ?_
      refine st_tn ?_
      refine w_seq ?_
      have hk : lower l s = i := lower_of (by omega) h1 (fun y hy => by first | (rw [hx] at hy; simp at hy; subst hy; exact hc17) | (rw [List.getElem?_eq_none (by omega)] at hy; simp at hy))
      refine w_region ?_
      refine wl_det rfl rfl rfl (op_move rfl) ?_
      refine wl_det rfl rfl rfl (op_assign rfl) ?_
      refine wl_nil ?_
      refine st_tn ?_
      refine w_ret ?_
      refine st_ret (vs := [_]) [] Try.results25 ⟨rfl, trivial⟩ rfl ?_
      refine ⟨_, rfl, ?_⟩
      rw [hk]; exact ⟨rfl, rfl⟩
  · -- 10 is False
    refine wl_unwanted rfl rfl rfl rfl rfl rfl rfl rfl ?_
    refine wl_unwanted rfl rfl rfl rfl rfl rfl rfl rfl ?_
    refine wl_unwanted rfl rfl rfl rfl rfl rfl rfl rfl ?_
    refine wl_unwanted rfl rfl rfl rfl rfl rfl rfl rfl ?_
    refine wl_unwanted rfl rfl rfl rfl rfl rfl rfl rfl ?_
    refine wl_unwanted rfl rfl rfl rfl rfl rfl rfl rfl ?_
    refine wl_det rfl rfl rfl (op_pick_f rfl rfl) ?_
    refine wl_nil ?_
    refine st_tn ?_
    refine w_cond_f (rfl) ?_
    refine w_exit ?_
    refine st_te ?_
    refine st_te ?_
    refine st_be ?_
    refine st_tn ?_
    refine w_seq ?_
    have hk : lower l s = i := lower_of (by omega) h1 (fun y hy => by first | (rw [hx] at hy; simp at hy; subst hy; exact hc17) | (rw [List.getElem?_eq_none (by omega)] at hy; simp at hy))
    refine w_region ?_
    refine wl_det rfl rfl rfl (op_move rfl) ?_
    refine wl_det rfl rfl rfl (op_assign rfl) ?_
    refine wl_nil ?_
    refine st_tn ?_
    refine w_ret ?_
    refine st_ret (vs := [_]) [] Try.results25 ⟨rfl, trivial⟩ rfl ?_
    refine ⟨_, rfl, ?_⟩
    rw [hk]; exact ⟨rfl, rfl⟩

/-- The index that Find returns. -/
def fk (l : List Bs) (s : Bs) : Nat := if l[lower l s]? = some s then lower l s else 0
theorem fk_le (l : List Bs) (s : Bs) : fk l s ≤ l.length := by unfold fk; have := lower_le l s; split <;> omega
set_option maxHeartbeats 400000 in
set_option maxRecDepth 100000 in
theorem find_any {σ : World} {F : List Res} {a : Option Addr} {c : Nat} {l : List Bs} (s : Bs) (h : Sl σ F encT 1 (.slice a l.length c) l) (hd : Inc l) (hl : l.length ≤ 1099511627776) :
    FnT Try.prog σ F 22 [.slice a l.length c, .string (str s)] [] (fun u ρ => u = .tuple #[.int .i64 (fk l s), .bool (decide (l[lower l s]? = some s))] ∧ ρ = []) := by
  refine fn_of 17 Try.func22 rfl Try.ntmps22 rfl ?_
  refine w_seq ?_
  refine w_region ?_
  refine wl_det rfl rfl rfl (op_assign rfl) ?_
  refine wl_det rfl rfl rfl (op_assign rfl) ?_
  refine wl_nil ?_
  refine st_tn ?_
  refine w_seq ?_
  refine w_region ?_
  refine wl_det rfl rfl rfl (op_move rfl) ?_
  refine wl_det rfl rfl rfl (op_move rfl) ?_
  refine wl_det rfl rfl rfl (op_fn Try.func49 rfl rfl rfl (bsearch_any _ (by first | exact Sl.app (by assumption) _ | exact Sl.app (Sl.app (by assumption) _) _) (by assumption) (by omega))) ?_
  refine wl_det rfl rfl rfl (op_move rfl) ?_
  refine wl_det rfl rfl rfl (op_extract rfl rfl) ?_
  refine wl_det rfl rfl rfl (op_extract rfl rfl) ?_
  refine wl_det rfl rfl rfl (op_assign rfl) ?_
  refine wl_det rfl rfl rfl (op_assign rfl) ?_
  refine wl_nil ?_
  refine st_tn ?_
  refine w_seq ?_
  refine w_seq ?_
  refine w_region ?_
  refine wl_det rfl rfl rfl (op_move rfl) ?_
  refine wl_det rfl rfl rfl (op_not_d rfl) ?_
  refine wl_nil ?_
  refine st_tn ?_
  refine w_cond_d rfl (fun hc15 => ?_) (fun hc15 => ?_)
  · -- c15.t
    refine w_seq ?_
    refine w_region ?_
    refine wl_det rfl rfl rfl (op_assign rfl) ?_
    refine wl_det rfl rfl rfl (op_assign rfl) ?_
    refine wl_nil ?_
    refine st_tn ?_
    refine w_ret ?_
    refine st_tr ?_
    refine st_ret (vs := [_, _]) [] Try.results22 ⟨rfl, ⟨rfl, trivial⟩⟩ rfl ?_
    refine ⟨_, rfl, ?_⟩
    refine ⟨?_, rfl⟩; unfold fk; simp [retv, *]
  · -- c15.f
    have hc15' := Classical.not_not.1 hc15
    refine w_skip ?_
    refine st_tn ?_
    refine w_seq ?_
    refine w_region ?_
    refine wl_det rfl rfl rfl (op_move rfl) ?_
    refine wl_det rfl rfl rfl (op_assign rfl) ?_
    refine wl_det rfl rfl rfl (op_assign rfl) ?_
    refine wl_nil ?_
    refine st_tn ?_
    refine w_ret ?_
    refine st_ret (vs := [_, _]) [] Try.results22 ⟨rfl, ⟨rfl, trivial⟩⟩ rfl ?_
    refine ⟨_, rfl, ?_⟩
    refine ⟨?_, rfl⟩; unfold fk; simp [retv, *]

-- CALL sleuth/dictionary.Find find_any _ {s0} (by assumption) (by omega)
set_option maxHeartbeats 400000 in
set_option maxRecDepth 100000 in
theorem rfind_any {σ : World} {F : List Res} {a : Option Addr} {c : Nat} {l : List Bs} (s : Bs) (h : Sl σ F encT 1 (.slice a l.length c) l) :
    FnT Try.prog σ F 23 [.slice a l.length c, .string (str s)] [] (fun u ρ => u = .tuple #[.int .i64 (fk l s), .bool (decide (l[lower l s]? = some s))] ∧ ρ = []) := by
  refine fn_of 23 Try.func23 rfl Try.ntmps23 rfl ?_
  have hle := h.i64
  refine w_seq ?_
  refine w_region ?_
  refine wl_det rfl rfl rfl (op_assign rfl) ?_
  refine wl_det rfl rfl rfl (op_assign rfl) ?_
  refine wl_nil ?_
  refine st_tn ?_
  refine w_seq ?_
  refine w_region ?_
  refine wl_det rfl rfl rfl (op_move rfl) ?_
  refine wl_det rfl rfl rfl (op_move rfl) ?_
  refine wl_det rfl rfl rfl (op_fn Try.func25 rfl rfl rfl (rlower_any _ (by first | exact Sl.app (by assumption) _ | exact Sl.app (Sl.app (by assumption) _) _))) ?_
  refine wl_det rfl rfl rfl (op_assign rfl) ?_
  refine wl_nil ?_
  refine st_tn ?_
  refine w_seq ?_
  refine w_seq ?_
  refine w_region ?_
  refine wl_det rfl rfl rfl (op_move rfl) ?_
  refine wl_det rfl rfl rfl (op_move rfl) ?_
  refine wl_det rfl rfl rfl (op_lenT rfl tS22a (Sl.ent (by first | exact Sl.app (by assumption) _ | exact Sl.app (Sl.app (by assumption) _) _))) ?_
  refine wl_det rfl rfl rfl (op_lss rfl rfl) ?_
  refine wl_det rfl rfl rfl (op_move rfl) ?_
  refine wl_gsplit (t := 14) rfl (fun hg14 => ?_) (fun hg14 => ?_)
  · -- 14 is True
    obtain ⟨x, hx⟩ := getE (l := l) (i := lower l s) (by omega)
    refine wl_wanted_det rfl rfl rfl rfl rfl rfl rfl (op_move rfl) ?_
    refine wl_wanted_det rfl rfl rfl rfl rfl rfl rfl (op_move rfl) ?_
    refine wl_wanted_det rfl rfl rfl rfl rfl rfl rfl (op_idx rfl rfl tS22a (Sl.ent (by first | exact Sl.app (by assumption) _ | exact Sl.app (Sl.app (by assumption) _) _)) (by omega)) ?_
    refine wl_wanted_det rfl rfl rfl rfl rfl rfl rfl (op_ldx rfl tO9a (by first | exact Sl.app (by assumption) _ | exact Sl.app (Sl.app (by assumption) _) _) (by assumption) (by rfl)) ?_
    refine wl_wanted_det rfl rfl rfl rfl rfl rfl rfl (op_move rfl) ?_
    refine wl_wanted_det rfl rfl rfl rfl rfl rfl rfl (op_eqBs rfl rfl) ?_
    refine wl_det rfl rfl rfl (op_pick_t rfl rfl) ?_
    refine wl_nil ?_
    refine st_tn ?_
    refine w_cond_d rfl (fun hc21 => ?_) (fun hc21 => ?_)
    · -- c21.t
      refine w_seq ?_
      refine w_region ?_
      refine wl_det rfl rfl rfl (op_move rfl) ?_
      refine wl_det rfl rfl rfl (op_assign rfl) ?_
      refine wl_det rfl rfl rfl (op_assign rfl) ?_
      refine wl_nil ?_
      refine st_tn ?_
      refine w_ret ?_
      refine st_tr ?_
      refine st_ret (vs := [_, _]) [] Try.results23 ⟨rfl, ⟨rfl, trivial⟩⟩ rfl ?_
      refine ⟨_, rfl, ?_⟩
      refine ⟨?_, rfl⟩; unfold fk; simp [retv, *]
    · -- c21.f
      refine w_skip ?_
      refine st_tn ?_
      refine w_seq ?_
      refine w_region ?_
      refine wl_det rfl rfl rfl (op_assign rfl) ?_
      refine wl_det rfl rfl rfl (op_assign rfl) ?_
      refine wl_nil ?_
      refine st_tn ?_
      refine w_ret ?_
      refine st_ret (vs := [_, _]) [] Try.results23 ⟨rfl, ⟨rfl, trivial⟩⟩ rfl ?_
      refine ⟨_, rfl, ?_⟩
      refine ⟨?_, rfl⟩; unfold fk; simp [retv, *]
  · -- 14 is False
    have hx : l[lower l s]? = none := List.getElem?_eq_none (by omega)
    refine wl_unwanted rfl rfl rfl rfl rfl rfl rfl rfl ?_
    refine wl_unwanted rfl rfl rfl rfl rfl rfl rfl rfl ?_
    refine wl_unwanted rfl rfl rfl rfl rfl rfl rfl rfl ?_
    refine wl_unwanted rfl rfl rfl rfl rfl rfl rfl rfl ?_
    refine wl_unwanted rfl rfl rfl rfl rfl rfl rfl rfl ?_
    refine wl_unwanted rfl rfl rfl rfl rfl rfl rfl rfl ?_
    refine wl_det rfl rfl rfl (op_pick_f rfl rfl) ?_
    refine wl_nil ?_
    refine st_tn ?_
    refine w_cond_f (rfl) ?_
    refine w_skip ?_
    refine st_tn ?_
    refine w_seq ?_
    refine w_region ?_
    refine wl_det rfl rfl rfl (op_assign rfl) ?_
    refine wl_det rfl rfl rfl (op_assign rfl) ?_
    refine wl_nil ?_
    refine st_tn ?_
    refine w_ret ?_
    refine st_ret (vs := [_, _]) [] Try.results23 ⟨rfl, ⟨rfl, trivial⟩⟩ rfl ?_
    refine ⟨_, rfl, ?_⟩
    refine ⟨?_, rfl⟩; unfold fk; simp [retv, *]

-- CALL sleuth/sleuthref06.Find rfind_any _ {s0}
set_option maxHeartbeats 400000 in
set_option maxRecDepth 100000 in
theorem lower_any {σ : World} {F : List Res} {a : Option Addr} {c : Nat} {l : List Bs} (s : Bs) (h : Sl σ F encT 1 (.slice a l.length c) l) (hd : Inc l) (hl : l.length ≤ 1099511627776) :
    FnT Try.prog σ F 24 [.slice a l.length c, .string (str s)] [] (fun u ρ => u = .int .i64 (lower l s) ∧ ρ = []) := by
  refine fn_of 14 Try.func24 rfl Try.ntmps24 rfl ?_
  refine w_seq ?_
  refine w_region ?_
  refine wl_det rfl rfl rfl (op_assign rfl) ?_
  refine wl_nil ?_
  refine st_tn ?_
  refine w_seq ?_
  refine w_region ?_
  refine wl_det rfl rfl rfl (op_move rfl) ?_
  refine wl_det rfl rfl rfl (op_move rfl) ?_
  refine wl_det rfl rfl rfl (op_fn Try.func49 rfl rfl rfl (bsearch_any _ (by first | exact Sl.app (by assumption) _ | exact Sl.app (Sl.app (by assumption) _) _) (by assumption) (by omega))) ?_
  refine wl_det rfl rfl rfl (op_move rfl) ?_
  refine wl_det rfl rfl rfl (op_extract rfl rfl) ?_
  refine wl_det rfl rfl rfl (op_extract rfl rfl) ?_
  refine wl_det rfl rfl rfl (op_assign rfl) ?_
  refine wl_det rfl rfl rfl (op_assign rfl) ?_
  refine wl_nil ?_
  refine st_tn ?_
  refine w_seq ?_
  refine w_region ?_
  refine wl_det rfl rfl rfl (op_move rfl) ?_
  refine wl_det rfl rfl rfl (op_assign rfl) ?_
  refine wl_nil ?_
  refine st_tn ?_
  refine w_ret ?_
  refine st_ret (vs := [_]) [] Try.results24 ⟨rfl, trivial⟩ rfl ?_
  refine ⟨_, rfl, ?_⟩
  exact ⟨rfl, rfl⟩

-- CALL sleuth/dictionary.Lower lower_any _ {s0} (by assumption) (by omega)
set_option maxHeartbeats 400000 in
set_option maxRecDepth 100000 in
theorem same_any {σ : World} {F : List Res} {a b : Option Addr} {c d : Nat} {l m : List Bs} (h : Sl σ F encT 1 (.slice a l.length c) l) (g : Sl σ F encT 1 (.slice b m.length d) m) :
    FnT Try.prog σ F 19 [.slice a l.length c, .slice b m.length d] [] (fun u ρ => u = .bool (decide (l = m)) ∧ ρ = []) := by
  refine fn_of 26 Try.func19 rfl Try.ntmps19 rfl ?_
  have hle := h.i64
  have gle := g.i64
  refine w_seq ?_
  refine w_region ?_
  refine wl_det rfl rfl rfl (op_assign rfl) ?_
  refine wl_nil ?_
  refine st_tn ?_
  refine w_seq ?_
  refine w_seq ?_
  refine w_region ?_
  refine wl_det rfl rfl rfl (op_move rfl) ?_
  refine wl_det rfl rfl rfl (op_lenT rfl tS22a (Sl.ent (by first | exact Sl.app (by assumption) _ | exact Sl.app (Sl.app (by assumption) _) _))) ?_
  refine wl_det rfl rfl rfl (op_move rfl) ?_
  refine wl_det rfl rfl rfl (op_lenT rfl tS22a (Sl.ent (by first | exact Sl.app (by assumption) _ | exact Sl.app (Sl.app (by assumption) _) _))) ?_
  refine wl_det rfl rfl rfl (op_neq rfl rfl) ?_
  refine wl_nil ?_
  refine st_tn ?_
  refine w_cond_d rfl (fun hc10 => ?_) (fun hc10 => ?_)
  · -- c10.t
    refine w_seq ?_
    refine w_region ?_
    refine wl_det rfl rfl rfl (op_assign rfl) ?_
    refine wl_nil ?_
    refine st_tn ?_
    refine w_ret ?_
    refine st_tr ?_
    refine st_ret (vs := [_]) [] Try.results19 ⟨rfl, trivial⟩ rfl ?_
    refine ⟨_, rfl, ?_⟩
    refine ⟨?_, rfl⟩; have : l ≠ m := fun e => by subst e; exact hc10 rfl
    simp [retv, this]
  · -- c10.f
    refine w_skip ?_
    refine st_tn ?_
    refine w_seq ?_
    refine w_seq ?_
    refine w_region ?_
    refine wl_det rfl rfl rfl (op_assign rfl) ?_
    refine wl_nil ?_
    refine st_tn ?_
    refine w_block ?_
    refine w_loopQ (X := Nat) (fun z => z ≤ l.length ∧ l.take z = m.take z) (fun z => [(5, .int .i64 (z))]) (fun _ => []) (fun z => l.length - z) (0) [(0, _), (1, _)] [] [] rfl (rfl) (.cons rfl (.nil _)) (.cons rfl (.cons rfl (.nil _))) (by
        try dsimp only
        exact ⟨Nat.zero_le _, by simp⟩) ?_
    rintro i ⟨hi, hn⟩
    refine w_norm2 (by dsimp only [List.cons_append, List.nil_append]) (by dsimp only [List.cons_append, List.nil_append]) ?_
    try dsimp only at hi hn ⊢
    refine w_seq ?_
    refine w_seq ?_
    refine w_region ?_
    refine wl_det rfl rfl rfl (op_move rfl) ?_
    refine wl_det rfl rfl rfl (op_move rfl) ?_
    refine wl_det rfl rfl rfl (op_lenT rfl tS22a (Sl.ent (by first | exact Sl.app (by assumption) _ | exact Sl.app (Sl.app (by assumption) _) _))) ?_
    refine wl_det rfl rfl rfl (op_lss rfl rfl) ?_
    refine wl_nil ?_
    refine st_tn ?_
    refine w_cond_d rfl (fun hc14 => ?_) (fun hc14 => ?_)
    · -- c14.t
      obtain ⟨y, hy⟩ := getE (l := l) (i := i) (by omega)
      obtain ⟨z, hz⟩ := getE (l := m) (i := i) (by omega)
      have hlt := ltE hy
      refine w_skip ?_
      refine st_tn ?_
      refine w_seq ?_
      refine w_block ?_
      refine w_seq ?_
      refine w_draw (D := [⟨17, [], [], [], _, false, [], []⟩, ⟨18, [], [], [], _, false, [], []⟩, ⟨19, [0, 1], [], [], _, false, [], []⟩, ⟨20, [2], [], [], _, false, [], []⟩, ⟨21, [], [], [], _, false, [], []⟩, ⟨22, [], [], [], _, false, [], []⟩, ⟨23, [4, 5], [], [], _, false, [], []⟩, ⟨24, [6], [], [], _, false, [], []⟩]) [] [0, 5, 1] [⟨17, [], [], false, [], []⟩, ⟨18, [], [], false, [], []⟩, ⟨19, [0, 1], [], false, [], []⟩, ⟨20, [2], [], false, [], []⟩, ⟨21, [], [], false, [], []⟩, ⟨22, [], [], false, [], []⟩, ⟨23, [4, 5], [], false, [], []⟩, ⟨24, [6], [], false, [], []⟩] tMixa (by rfl) (by kernel_rfl) (by rfl) (by rfl)
          ⟨.plain rfl (by intro X; exact op_move rfl),
          ⟨.plain rfl (by intro X; exact op_move rfl),
          ⟨.plain rfl (by intro X; rintro _ _ ⟨rfl, rfl⟩ _ _ ⟨rfl, rfl⟩; exact op_idx rfl rfl tS22a (Sl.ent (by first | exact Sl.app (by assumption) _ | exact Sl.app (Sl.app (by assumption) _) _)) (by omega)),
          ⟨.plain rfl (by intro X; rintro _ _ ⟨rfl, rfl⟩; exact op_ldx rfl tO9a (by first | exact Sl.app (by assumption) _ | exact Sl.app (Sl.app (by assumption) _) _) (by assumption) (by rfl)),
          ⟨.plain rfl (by intro X; exact op_move rfl),
          ⟨.plain rfl (by intro X; exact op_move rfl),
          ⟨.plain rfl (by intro X; rintro _ _ ⟨rfl, rfl⟩ _ _ ⟨rfl, rfl⟩; exact op_idx rfl rfl tS22a (Sl.ent (by first | exact Sl.app (by assumption) _ | exact Sl.app (Sl.app (by assumption) _) _)) (by omega)),
          ⟨.plain rfl (by intro X; rintro _ _ ⟨rfl, rfl⟩; exact op_ldx rfl tO9a (by first | exact Sl.app (by assumption) _ | exact Sl.app (Sl.app (by assumption) _) _) (by assumption) (by rfl)),
          trivial⟩⟩⟩⟩⟩⟩⟩⟩ ?_
      rintro _ _ ⟨rfl, rfl⟩ _ _ ⟨rfl, rfl⟩ _ _ ⟨rfl, rfl⟩ _ _ ⟨rfl, rfl⟩ _ _ ⟨rfl, rfl⟩ _ _ ⟨rfl, rfl⟩ _ _ ⟨rfl, rfl⟩ _ _ ⟨rfl, rfl⟩
      refine wl_norm (e' := [(0, _), (1, _), (5, _), (20, _), (24, _)]) (.cons rfl (.cons rfl (.cons rfl (.cons rfl (.cons rfl (.nil _)))))) (by dsimp only [cond_false, cond_true, List.nil_append, List.cons_append]) ?_
      refine wl_det rfl rfl rfl (op_neBs rfl rfl) ?_
      refine wl_nil ?_
      refine st_tn ?_
      refine w_cond_d rfl (fun hc25 => ?_) (fun hc25 => ?_)
      · -- c25.t
        refine w_seq ?_
        refine w_region ?_
        refine wl_det rfl rfl rfl (op_assign rfl) ?_
        refine wl_nil ?_
        refine st_tn ?_
        refine w_ret ?_
        refine st_br ?_
        refine st_tr ?_
        refine st_tr ?_
        refine st_br ?_
        refine st_tr ?_
        refine st_ret (vs := [_]) [] Try.results19 ⟨rfl, trivial⟩ rfl ?_
        refine ⟨_, rfl, ?_⟩
        refine ⟨?_, rfl⟩; have : l ≠ m := fun e => by subst e; rw [hy] at hz; simp at hz; exact hc25 hz
        simp [retv, this]
      · -- c25.f
        refine w_skip ?_
        refine st_bn ?_
        refine st_tn ?_
        refine w_region ?_
        refine wl_det rfl rfl rfl (op_move rfl) ?_
        refine wl_det rfl rfl rfl (op_add' rfl rfl (by omega)) ?_
        refine wl_det rfl rfl rfl (op_assign rfl) ?_
        refine wl_nil ?_
        refine st_roundQ (x := i) (i + 1) [] rfl (rfl) (.cons rfl (.nil _)) (.cons rfl (.cons rfl (.nil _))) (by
            try dsimp only
            exact ⟨by omega, by rw [take_snoc hy, take_snoc hz, hn, show y = z from Classical.byContradiction hc25]⟩) (by
            try dsimp only
            omega) 
    · -- c14.f
      refine w_exit ?_
      refine st_te ?_
      refine st_te ?_
      refine st_be ?_
      refine st_tn ?_
      refine w_seq ?_
      refine w_region ?_
      refine wl_det rfl rfl rfl (op_assign rfl) ?_
      refine wl_nil ?_
      refine st_tn ?_
      refine w_ret ?_
      refine st_ret (vs := [_]) [] Try.results19 ⟨rfl, trivial⟩ rfl ?_
      refine ⟨_, rfl, ?_⟩
      refine ⟨?_, rfl⟩; rw [take_all (by omega), take_all (by omega)] at hn; simp [retv, hn]

-- CALL sleuth/sleuthlaw06.same same_any {s0} {s1}
set_option maxHeartbeats 400000 in
set_option maxRecDepth 100000 in
theorem sameI_any {σ : World} {F : List Res} {a b : Option Addr} {c d : Nat} {l m : List Int} (h : Sl σ F encZ 1 (.slice a l.length c) l) (g : Sl σ F encZ 1 (.slice b m.length d) m) :
    FnT Try.prog σ F 29 [.slice a l.length c, .slice b m.length d] [] (fun u ρ => u = .bool (decide (l = m)) ∧ ρ = []) := by
  refine fn_of 26 Try.func29 rfl Try.ntmps29 rfl ?_
  have hle := h.i64
  have gle := g.i64
  refine w_seq ?_
  refine w_region ?_
  refine wl_det rfl rfl rfl (op_assign rfl) ?_
  refine wl_nil ?_
  refine st_tn ?_
  refine w_seq ?_
  refine w_seq ?_
  refine w_region ?_
  refine wl_det rfl rfl rfl (op_move rfl) ?_
  refine wl_det rfl rfl rfl (op_lenT rfl tS31a (Sl.ent (by first | exact Sl.app (by assumption) _ | exact Sl.app (Sl.app (by assumption) _) _))) ?_
  refine wl_det rfl rfl rfl (op_move rfl) ?_
  refine wl_det rfl rfl rfl (op_lenT rfl tS31a (Sl.ent (by first | exact Sl.app (by assumption) _ | exact Sl.app (Sl.app (by assumption) _) _))) ?_
  refine wl_det rfl rfl rfl (op_neq rfl rfl) ?_
  refine wl_nil ?_
  refine st_tn ?_
  refine w_cond_d rfl (fun hc10 => ?_) (fun hc10 => ?_)
  · -- c10.t
    refine w_seq ?_
    refine w_region ?_
    refine wl_det rfl rfl rfl (op_assign rfl) ?_
    refine wl_nil ?_
    refine st_tn ?_
    refine w_ret ?_
    refine st_tr ?_
    refine st_ret (vs := [_]) [] Try.results29 ⟨rfl, trivial⟩ rfl ?_
    refine ⟨_, rfl, ?_⟩
    refine ⟨?_, rfl⟩; have : l ≠ m := fun e => by subst e; exact hc10 rfl
    simp [retv, this]
  · -- c10.f
    refine w_skip ?_
    refine st_tn ?_
    refine w_seq ?_
    refine w_seq ?_
    refine w_region ?_
    refine wl_det rfl rfl rfl (op_assign rfl) ?_
    refine wl_nil ?_
    refine st_tn ?_
    refine w_block ?_
    refine w_loopQ (X := Nat) (fun z => z ≤ l.length ∧ l.take z = m.take z) (fun z => [(5, .int .i64 (z))]) (fun _ => []) (fun z => l.length - z) (0) [(0, _), (1, _)] [] [] rfl (rfl) (.cons rfl (.nil _)) (.cons rfl (.cons rfl (.nil _))) (by
        try dsimp only
        exact ⟨Nat.zero_le _, by simp⟩) ?_
    rintro i ⟨hi, hn⟩
    refine w_norm2 (by dsimp only [List.cons_append, List.nil_append]) (by dsimp only [List.cons_append, List.nil_append]) ?_
    try dsimp only at hi hn ⊢
    refine w_seq ?_
    refine w_seq ?_
    refine w_region ?_
    refine wl_det rfl rfl rfl (op_move rfl) ?_
    refine wl_det rfl rfl rfl (op_move rfl) ?_
    refine wl_det rfl rfl rfl (op_lenT rfl tS31a (Sl.ent (by first | exact Sl.app (by assumption) _ | exact Sl.app (Sl.app (by assumption) _) _))) ?_
    refine wl_det rfl rfl rfl (op_lss rfl rfl) ?_
    refine wl_nil ?_
    refine st_tn ?_
    refine w_cond_d rfl (fun hc14 => ?_) (fun hc14 => ?_)
    · -- c14.t
      obtain ⟨y, hy⟩ := getE (l := l) (i := i) (by omega)
      obtain ⟨z, hz⟩ := getE (l := m) (i := i) (by omega)
      have hlt := ltE hy
      refine w_skip ?_
      refine st_tn ?_
      refine w_seq ?_
      refine w_block ?_
      refine w_seq ?_
      refine w_draw (D := [⟨17, [], [], [], _, false, [], []⟩, ⟨18, [], [], [], _, false, [], []⟩, ⟨19, [0, 1], [], [], _, false, [], []⟩, ⟨20, [2], [], [], _, false, [], []⟩, ⟨21, [], [], [], _, false, [], []⟩, ⟨22, [], [], [], _, false, [], []⟩, ⟨23, [4, 5], [], [], _, false, [], []⟩, ⟨24, [6], [], [], _, false, [], []⟩]) [] [0, 5, 1] [⟨17, [], [], false, [], []⟩, ⟨18, [], [], false, [], []⟩, ⟨19, [0, 1], [], false, [], []⟩, ⟨20, [2], [], false, [], []⟩, ⟨21, [], [], false, [], []⟩, ⟨22, [], [], false, [], []⟩, ⟨23, [4, 5], [], false, [], []⟩, ⟨24, [6], [], false, [], []⟩] tMixa (by rfl) (by kernel_rfl) (by rfl) (by rfl)
          ⟨.plain rfl (by intro X; exact op_move rfl),
          ⟨.plain rfl (by intro X; exact op_move rfl),
          ⟨.plain rfl (by intro X; rintro _ _ ⟨rfl, rfl⟩ _ _ ⟨rfl, rfl⟩; exact op_idx rfl rfl tS31a (Sl.ent (by first | exact Sl.app (by assumption) _ | exact Sl.app (Sl.app (by assumption) _) _)) (by omega)),
          ⟨.plain rfl (by intro X; rintro _ _ ⟨rfl, rfl⟩; exact op_ldx rfl tO3a (by first | exact Sl.app (by assumption) _ | exact Sl.app (Sl.app (by assumption) _) _) (by assumption) (by rfl)),
          ⟨.plain rfl (by intro X; exact op_move rfl),
          ⟨.plain rfl (by intro X; exact op_move rfl),
          ⟨.plain rfl (by intro X; rintro _ _ ⟨rfl, rfl⟩ _ _ ⟨rfl, rfl⟩; exact op_idx rfl rfl tS31a (Sl.ent (by first | exact Sl.app (by assumption) _ | exact Sl.app (Sl.app (by assumption) _) _)) (by omega)),
          ⟨.plain rfl (by intro X; rintro _ _ ⟨rfl, rfl⟩; exact op_ldx rfl tO3a (by first | exact Sl.app (by assumption) _ | exact Sl.app (Sl.app (by assumption) _) _) (by assumption) (by rfl)),
          trivial⟩⟩⟩⟩⟩⟩⟩⟩ ?_
      rintro _ _ ⟨rfl, rfl⟩ _ _ ⟨rfl, rfl⟩ _ _ ⟨rfl, rfl⟩ _ _ ⟨rfl, rfl⟩ _ _ ⟨rfl, rfl⟩ _ _ ⟨rfl, rfl⟩ _ _ ⟨rfl, rfl⟩ _ _ ⟨rfl, rfl⟩
      refine wl_norm (e' := [(0, _), (1, _), (5, _), (20, _), (24, _)]) (.cons rfl (.cons rfl (.cons rfl (.cons rfl (.cons rfl (.nil _)))))) (by dsimp only [cond_false, cond_true, List.nil_append, List.cons_append]) ?_
      refine wl_det rfl rfl rfl (op_neq rfl rfl) ?_
      refine wl_nil ?_
      refine st_tn ?_
      refine w_cond_d rfl (fun hc25 => ?_) (fun hc25 => ?_)
      · -- c25.t
        refine w_seq ?_
        refine w_region ?_
        refine wl_det rfl rfl rfl (op_assign rfl) ?_
        refine wl_nil ?_
        refine st_tn ?_
        refine w_ret ?_
        refine st_br ?_
        refine st_tr ?_
        refine st_tr ?_
        refine st_br ?_
        refine st_tr ?_
        refine st_ret (vs := [_]) [] Try.results29 ⟨rfl, trivial⟩ rfl ?_
        refine ⟨_, rfl, ?_⟩
        refine ⟨?_, rfl⟩; have : l ≠ m := fun e => by subst e; rw [hy] at hz; simp at hz; exact hc25 hz
        simp [retv, this]
      · -- c25.f
        refine w_skip ?_
        refine st_bn ?_
        refine st_tn ?_
        refine w_region ?_
        refine wl_det rfl rfl rfl (op_move rfl) ?_
        refine wl_det rfl rfl rfl (op_add' rfl rfl (by omega)) ?_
        refine wl_det rfl rfl rfl (op_assign rfl) ?_
        refine wl_nil ?_
        refine st_roundQ (x := i) (i + 1) [] rfl (rfl) (.cons rfl (.nil _)) (.cons rfl (.cons rfl (.nil _))) (by
            try dsimp only
            exact ⟨by omega, by rw [take_snoc hy, take_snoc hz, hn, show y = z by omega]⟩) (by
            try dsimp only
            omega) 
    · -- c14.f
      refine w_exit ?_
      refine st_te ?_
      refine st_te ?_
      refine st_be ?_
      refine st_tn ?_
      refine w_seq ?_
      refine w_region ?_
      refine wl_det rfl rfl rfl (op_assign rfl) ?_
      refine wl_nil ?_
      refine st_tn ?_
      refine w_ret ?_
      refine st_ret (vs := [_]) [] Try.results29 ⟨rfl, trivial⟩ rfl ?_
      refine ⟨_, rfl, ?_⟩
      refine ⟨?_, rfl⟩; rw [take_all (by omega), take_all (by omega)] at hn; simp [retv, hn]

/-- At most 60 strings of at most 300 bytes. -/
def Few (l : List Bs) : Prop := (∀ x ∈ l, x.length ≤ 300) ∧ l.length ≤ 60
instance (l : List Bs) : Decidable (Few l) := by unfold Few; infer_instance
set_option maxHeartbeats 400000 in
set_option maxRecDepth 100000 in
theorem few_any {σ : World} {F : List Res} {a : Option Addr} {c : Nat} {l : List Bs} (h : Sl σ F encT 1 (.slice a l.length c) l) :
    FnT Try.prog σ F 14 [.slice a l.length c] [] (fun u ρ => u = .bool (decide (Few l)) ∧ ρ = []) := by
  refine fn_of 19 Try.func14 rfl Try.ntmps14 rfl ?_
  have hle := h.i64
  refine w_seq ?_
  refine w_region ?_
  refine wl_det rfl rfl rfl (op_assign rfl) ?_
  refine wl_nil ?_
  refine st_tn ?_
  refine w_seq ?_
  refine w_seq ?_
  refine w_region ?_
  refine wl_det rfl rfl rfl (op_assign rfl) ?_
  refine wl_nil ?_
  refine st_tn ?_
  refine w_block ?_
  refine w_loopQ (X := Nat) (fun z => z ≤ l.length ∧ ∀ x ∈ l.take z, x.length ≤ 300) (fun z => [(3, .int .i64 (z))]) (fun _ => []) (fun z => l.length - z) (0) [(0, _)] [] [] rfl (rfl) (.cons rfl (.nil _)) (.cons rfl (.nil _)) (by
      try dsimp only
      exact ⟨Nat.zero_le _, by simp⟩) ?_
  rintro i ⟨hi, hn⟩
  refine w_norm2 (by dsimp only [List.cons_append, List.nil_append]) (by dsimp only [List.cons_append, List.nil_append]) ?_
  try dsimp only at hi hn ⊢
  refine w_seq ?_
  refine w_seq ?_
  refine w_region ?_
  refine wl_det rfl rfl rfl (op_move rfl) ?_
  refine wl_det rfl rfl rfl (op_move rfl) ?_
  refine wl_det rfl rfl rfl (op_lenT rfl tS22a (Sl.ent (by first | exact Sl.app (by assumption) _ | exact Sl.app (Sl.app (by assumption) _) _))) ?_
  refine wl_det rfl rfl rfl (op_lss rfl rfl) ?_
  refine wl_nil ?_
  refine st_tn ?_
  refine w_cond_d rfl (fun hc7 => ?_) (fun hc7 => ?_)
  · -- c7.t
    obtain ⟨y, hy⟩ := getE (l := l) (i := i) (by omega)
    have hlt := ltE hy
    refine w_skip ?_
    refine st_tn ?_
    refine w_seq ?_
    refine w_block ?_
    refine w_seq ?_
    refine w_region ?_
    refine wl_det rfl rfl rfl (op_move rfl) ?_
    refine wl_det rfl rfl rfl (op_move rfl) ?_
    refine wl_det rfl rfl rfl (op_idx rfl rfl tS22a (Sl.ent (by first | exact Sl.app (by assumption) _ | exact Sl.app (Sl.app (by assumption) _) _)) (by omega)) ?_
    refine wl_det rfl rfl rfl (op_ldx rfl tO9a (by first | exact Sl.app (by assumption) _ | exact Sl.app (Sl.app (by assumption) _) _) (by assumption) (by rfl)) ?_
    refine wl_det rfl rfl rfl (op_lenBs rfl Try.underlying9) ?_
    refine wl_det rfl rfl rfl (op_gtr rfl rfl) ?_
    refine wl_nil ?_
    refine st_tn ?_
    refine w_cond_d rfl (fun hc15 => ?_) (fun hc15 => ?_)
    · -- c15.t
      refine w_seq ?_
      refine w_region ?_
      refine wl_det rfl rfl rfl (op_assign rfl) ?_
      refine wl_nil ?_
      refine st_tn ?_
      refine w_ret ?_
      refine st_br ?_
      refine st_tr ?_
      refine st_tr ?_
      refine st_br ?_
      refine st_tr ?_
      refine st_ret (vs := [_]) [] Try.results14 ⟨rfl, trivial⟩ rfl ?_
      refine ⟨_, rfl, ?_⟩
      refine ⟨?_, rfl⟩; have : ¬ Few l := fun e => by have := e.1 y (List.mem_of_getElem? hy); omega
      simp [retv, this]
    · -- c15.f
      refine w_skip ?_
      refine st_bn ?_
      refine st_tn ?_
      refine w_region ?_
      refine wl_det rfl rfl rfl (op_move rfl) ?_
      refine wl_det rfl rfl rfl (op_add' rfl rfl (by omega)) ?_
      refine wl_det rfl rfl rfl (op_assign rfl) ?_
      refine wl_nil ?_
      refine st_roundQ (x := i) (i + 1) [] rfl (rfl) (.cons rfl (.nil _)) (.cons rfl (.nil _)) (by
          try dsimp only
          exact ⟨by omega, by rw [take_snoc hy]; intro z hz; rcases List.mem_append.1 hz with hz | hz; (· exact hn z hz); (· simp at hz; subst hz; omega)⟩) (by
          try dsimp only
          omega) 
  · -- c7.f
    refine w_exit ?_
    refine st_te ?_
    refine st_te ?_
    refine st_be ?_
    refine st_tn ?_
    refine w_seq ?_
    refine w_region ?_
    refine wl_det rfl rfl rfl (op_move rfl) ?_
    refine wl_det rfl rfl rfl (op_lenT rfl tS22a (Sl.ent (by first | exact Sl.app (by assumption) _ | exact Sl.app (Sl.app (by assumption) _) _))) ?_
    refine wl_det rfl rfl rfl (op_leq rfl rfl) ?_
    refine wl_det rfl rfl rfl (op_assign rfl) ?_
    refine wl_nil ?_
    refine st_tn ?_
    refine w_ret ?_
    refine st_ret (vs := [_]) [] Try.results14 ⟨rfl, trivial⟩ rfl ?_
    refine ⟨_, rfl, ?_⟩
    refine ⟨?_, rfl⟩; rw [take_all (by omega)] at hn; simp only [retv]; congr 1; rw [decide_eq_decide]; exact ⟨fun h => ⟨hn, by omega⟩, fun h => by have := h.2; omega⟩

end Go.Proofs.Ytbpihhaiechnbaa
