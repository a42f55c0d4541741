/- Contracts on quantiles (layer 43). Conditions: none. -/
import Derived.Test.YtbgddblfalahfaaS2
namespace Go.Proofs.Ytbgddblfalahfaa
open Go Go.SL Go.RowKit
set_option linter.unusedVariables false
set_option linter.unusedSimpArgs false
theorem tA24c : aggB Try.prog 24 2 = true := by kernel_rfl
theorem tF24_0c : fieldB Try.prog 24 0 0 = true := by kernel_rfl
theorem tF24_1c : fieldB Try.prog 24 1 1 = true := by kernel_rfl
theorem tG24c : Try.prog.eqGuardType Try.prog.depth 24 = false := by kernel_rfl
theorem tL25_1c : zerosB Try.prog 25 3 1 1 = some [Value.int .i64 0] := by kernel_rfl
theorem tMixc : Try.prog.follows .mixedOrders = true := by kernel_rfl
theorem tN24c : (Try.prog.info? 24).bind (·.zero) = some (Value.agg #[Value.int .i64 0, Value.int .i64 0]) := by kernel_rfl
theorem tO3c : oneB Try.prog 3 = true := by kernel_rfl
theorem tO5c : oneB Try.prog 5 = true := by kernel_rfl
theorem tP25c : appB Try.prog 25 3 1 8 = true := by kernel_rfl
theorem tS22c : sliceB Try.prog 22 5 1 = true := by kernel_rfl
theorem tS25c : sliceB Try.prog 25 3 1 = true := by kernel_rfl
theorem tZ24c : (Try.prog.info? 24).map (·.size) = some 2 := by kernel_rfl

abbrev frac (x y : Int) : Value := .agg #[.int .i64 x, .int .i64 y]
def chkF (x y : Int) : Int := if mkF x y = (x, y, 0) then 0 else 3
def i64B (x : Int) : Prop := -9223372036854775808 ≤ x ∧ x ≤ 9223372036854775807
set_option maxHeartbeats 1000000 in
set_option maxRecDepth 100000 in
theorem fcheck_any {σ : World} {F : List Res} (x y : Int) (hx : -9223372036854775808 ≤ x ∧ x ≤ 9223372036854775807) (hy : -9223372036854775808 ≤ y ∧ y ≤ 9223372036854775807) :
    FnT Try.prog σ F 48 [frac x y] [] (fun u ρ => u = .int .i64 (chkF x y) ∧ ρ = []) := by
  refine fn_of 20 Try.func48 rfl Try.ntmps48 rfl ?_
  refine w_seq ?_
  refine w_region ?_
  refine wl_op [] rfl rfl rfl rfl (op_box (T := 24) (l := 1) rfl) ?_
  rintro _ _ ⟨b1, rfl, rfl⟩
  refine wl_det rfl rfl rfl (op_assign rfl) ?_
  refine wl_nil ?_
  refine st_tn ?_
  refine w_seq ?_
  refine w_seq ?_
  refine w_region ?_
  refine wl_det rfl rfl rfl (op_fieldAddr (off := 0) rfl tF24_0c) ?_
  refine wl_det rfl rfl rfl (op_load1 rfl tO3c (Ent.lab (l := 1) rfl (says_cel 0))) ?_
  refine wl_det rfl rfl rfl (op_fieldAddr (off := 1) rfl tF24_1c) ?_
  refine wl_det rfl rfl rfl (op_load1 rfl tO3c (Ent.lab (l := 1) rfl (says_cel 1))) ?_
  refine wl_det rfl rfl rfl (op_fn Try.func54 rfl rfl rfl (mk_any _ _ (by omega) (by omega))) ?_
  refine wl_det rfl rfl rfl (op_move rfl) ?_
  refine wl_det rfl rfl rfl (op_extract rfl rfl) ?_
  refine wl_det rfl rfl rfl (op_extract rfl rfl) ?_
  refine wl_op [] rfl rfl rfl rfl (op_alloc (l := 3) tN24c) ?_
  rintro _ _ ⟨b3, rfl, rfl⟩
  refine wl_op0 [3] rfl rfl rfl (op_store rfl rfl tZ24c (by rfl) (by rfl) (by exact Nat.le_of_ble_eq_true rfl)) ?_
  rintro _ _ ⟨rfl, rfl⟩
  refine wl_det rfl rfl rfl (op_assign rfl) ?_
  refine wl_nil ?_
  refine st_tn ?_
  refine w_seq ?_
  refine w_cutL [(19, .bool (decide (mkF x y ≠ (x, y, 0))))] [] [1, 3] rfl (fun K' hK => ?_) ?_
  · -- cut r2
    refine w_region ?_
    refine wl_det rfl rfl rfl (op_move rfl) ?_
    refine wl_det rfl rfl rfl (op_neq rfl rfl) ?_
    refine wl_det rfl rfl rfl (op_move rfl) ?_
    refine wl_gsplit (t := 15) rfl (fun hg15 => ?_) (fun hg15 => ?_)
    · -- 15 is True
      refine wl_unwanted rfl rfl rfl rfl rfl rfl rfl rfl ?_
      refine wl_unwanted rfl rfl rfl rfl rfl rfl rfl rfl ?_
      refine wl_unwanted rfl rfl rfl rfl rfl rfl rfl rfl ?_
      refine wl_det rfl rfl rfl (op_pick_t rfl rfl) ?_
      refine wl_nil ?_
      refine st_tn ?_
      exact cut_done1 [1, 3] hK rfl (by generalize mkF x y = r at *; obtain ⟨p, q, e⟩ := r; first | (simp_all; done) | (simp_all; omega)) (by rfl) rfl rfl
    · -- 15 is False
      refine wl_wanted_det rfl rfl rfl rfl rfl rfl rfl (op_loadA rfl tA24c (Ent.lab (l := 3) rfl (says_cel 0)) (Nat.le_of_ble_eq_true rfl)) ?_
      refine wl_wanted_det rfl rfl rfl rfl rfl rfl rfl (op_loadA rfl tA24c (Ent.lab (l := 1) rfl (says_cel 0)) (Nat.le_of_ble_eq_true rfl)) ?_
      refine wl_wanted_det rfl rfl rfl rfl rfl rfl rfl (op_neA rfl rfl tG24c (eq24 _ _ _ _)) ?_
      refine wl_det rfl rfl rfl (op_pick_f rfl rfl) ?_
      refine wl_nil ?_
      refine st_tn ?_
      exact cut_done1 [1, 3] hK rfl (by generalize mkF x y = r at *; obtain ⟨p, q, e⟩ := r; first | (simp_all; done) | (simp_all; omega)) (by rfl) rfl rfl
  · -- behind r2
    show W _ _ _ _ _ [(19, _)] [(1, _), (3, _)] _
    refine w_cond_d rfl (fun hc19 => ?_) (fun hc19 => ?_)
    · -- c19.t
      refine w_seq ?_
      refine w_region ?_
      refine wl_det rfl rfl rfl (op_assign rfl) ?_
      refine wl_nil ?_
      refine st_tn ?_
      refine w_ret ?_
      refine st_tr ?_
      refine st_ret (vs := [_]) [] Try.results48 ⟨rfl, trivial⟩ rfl ?_
      refine ⟨_, rfl, ?_⟩
      refine ⟨?_, rfl⟩; unfold chkF; rw [if_neg hc19]; rfl
    · -- c19.f
      refine w_skip ?_
      refine st_tn ?_
      refine w_seq ?_
      refine w_region ?_
      refine wl_det rfl rfl rfl (op_assign rfl) ?_
      refine wl_nil ?_
      refine st_tn ?_
      refine w_ret ?_
      refine st_ret (vs := [_]) [] Try.results48 ⟨rfl, trivial⟩ rfl ?_
      refine ⟨_, rfl, ?_⟩
      refine ⟨?_, rfl⟩; unfold chkF; rw [if_pos (Classical.byContradiction hc19)]; rfl

def goodB (x y : Int) : Prop := mkF x y = (x, y, 0) ∧ 0 < x ∧ x ≤ y
instance (x y : Int) : Decidable (goodB x y) := by unfold goodB; infer_instance
theorem goodB_bd {x y : Int} (h : goodB x y) : 0 < x ∧ x ≤ y ∧ y ≤ 1048576 := by
  have := mkF_ok h.1; have := h.2; omega
set_option maxHeartbeats 400000 in
set_option maxRecDepth 100000 in
theorem squant_any {σ : World} {F : List Res} (x y : Int) (hx : -9223372036854775808 ≤ x ∧ x ≤ 9223372036854775807) (hy : -9223372036854775808 ≤ y ∧ y ≤ 9223372036854775807) :
    FnT Try.prog σ F 46 [frac x y] [] (fun u ρ => u = .bool (decide (goodB x y)) ∧ ρ = []) := by
  refine fn_of 18 Try.func46 rfl Try.ntmps46 rfl ?_
  refine w_seq ?_
  refine w_region ?_
  refine wl_op [] rfl rfl rfl rfl (op_box (T := 24) (l := 1) rfl) ?_
  rintro _ _ ⟨b1, rfl, rfl⟩
  refine wl_det rfl rfl rfl (op_assign rfl) ?_
  refine wl_nil ?_
  refine st_tn ?_
  refine w_seq ?_
  refine w_cutL [(2, .bool (decide (goodB x y)))] [] [1] rfl (fun K' hK => ?_) ?_
  · -- cut r1
    refine w_region ?_
    refine wl_det rfl rfl rfl (op_loadA rfl tA24c (Ent.lab (l := 1) rfl (says_cel 0)) (Nat.le_of_ble_eq_true rfl)) ?_
    refine wl_det rfl rfl rfl (op_fn Try.func48 rfl rfl rfl (fcheck_any _ _ (by omega) (by omega))) ?_
    refine wl_det rfl rfl rfl (op_eql rfl rfl) ?_
    refine wl_det rfl rfl rfl (op_move rfl) ?_
    refine wl_gsplit (t := 6) rfl (fun hg6 => ?_) (fun hg6 => ?_)
    · -- 6 is True
      refine wl_wanted_det rfl rfl rfl rfl rfl rfl rfl (op_fieldAddr (off := 0) rfl tF24_0c) ?_
      refine wl_wanted_det rfl rfl rfl rfl rfl rfl rfl (op_load1 rfl tO3c (Ent.lab (l := 1) rfl (says_cel 0))) ?_
      refine wl_wanted_det rfl rfl rfl rfl rfl rfl rfl (op_gtr rfl rfl) ?_
      refine wl_det rfl rfl rfl (op_pick_t rfl rfl) ?_
      refine wl_det rfl rfl rfl (op_move rfl) ?_
      refine wl_gsplit (t := 11) rfl (fun hg11 => ?_) (fun hg11 => ?_)
      · -- 11 is True
        refine wl_wanted_det rfl rfl rfl rfl rfl rfl rfl (op_fieldAddr (off := 0) rfl tF24_0c) ?_
        refine wl_wanted_det rfl rfl rfl rfl rfl rfl rfl (op_load1 rfl tO3c (Ent.lab (l := 1) rfl (says_cel 0))) ?_
        refine wl_wanted_det rfl rfl rfl rfl rfl rfl rfl (op_fieldAddr (off := 1) rfl tF24_1c) ?_
        refine wl_wanted_det rfl rfl rfl rfl rfl rfl rfl (op_load1 rfl tO3c (Ent.lab (l := 1) rfl (says_cel 1))) ?_
        refine wl_wanted_det rfl rfl rfl rfl rfl rfl rfl (op_leq rfl rfl) ?_
        refine wl_det rfl rfl rfl (op_pick_t rfl rfl) ?_
        refine wl_det rfl rfl rfl (op_assign rfl) ?_
        refine wl_nil ?_
        refine st_tn ?_
        exact cut_done1 [1] hK rfl (by unfold goodB; unfold chkF at *; by_cases h1 : mkF x y = (x, y, 0) <;> simp_all <;> omega) (by rfl) rfl rfl
      · -- 11 is False
        refine wl_unwanted rfl rfl rfl rfl rfl rfl rfl rfl ?_
        refine wl_unwanted rfl rfl rfl rfl rfl rfl rfl rfl ?_
        refine wl_unwanted rfl rfl rfl rfl rfl rfl rfl rfl ?_
        refine wl_unwanted rfl rfl rfl rfl rfl rfl rfl rfl ?_
        refine wl_unwanted rfl rfl rfl rfl rfl rfl rfl rfl ?_
        refine wl_det rfl rfl rfl (op_pick_f rfl rfl) ?_
        refine wl_det rfl rfl rfl (op_assign rfl) ?_
        refine wl_nil ?_
        refine st_tn ?_
        exact cut_done1 [1] hK rfl (by unfold goodB; unfold chkF at *; by_cases h1 : mkF x y = (x, y, 0) <;> simp_all <;> omega) (by rfl) rfl rfl
    · -- 6 is False
      refine wl_unwanted rfl rfl rfl rfl rfl rfl rfl rfl ?_
      refine wl_unwanted rfl rfl rfl rfl rfl rfl rfl rfl ?_
      refine wl_unwanted rfl rfl rfl rfl rfl rfl rfl rfl ?_
      refine wl_det rfl rfl rfl (op_pick_f rfl rfl) ?_
      refine wl_det rfl rfl rfl (op_move rfl) ?_
      refine wl_unwanted rfl rfl rfl rfl rfl rfl rfl rfl ?_
      refine wl_unwanted rfl rfl rfl rfl rfl rfl rfl rfl ?_
      refine wl_unwanted rfl rfl rfl rfl rfl rfl rfl rfl ?_
      refine wl_unwanted rfl rfl rfl rfl rfl rfl rfl rfl ?_
      refine wl_unwanted rfl rfl rfl rfl rfl rfl rfl rfl ?_
      refine wl_det rfl rfl rfl (op_pick_f rfl rfl) ?_
      refine wl_det rfl rfl rfl (op_assign rfl) ?_
      refine wl_nil ?_
      refine st_tn ?_
      exact cut_done1 [1] hK rfl (by unfold goodB; unfold chkF at *; by_cases h1 : mkF x y = (x, y, 0) <;> simp_all <;> omega) (by rfl) rfl rfl
  · -- behind r1
    show W _ _ _ _ _ [(2, _)] [(1, _)] _
    refine w_ret ?_
    refine st_ret (vs := [_]) [] Try.results46 ⟨rfl, trivial⟩ rfl ?_
    refine ⟨_, rfl, ?_⟩
    exact ⟨rfl, rfl⟩

set_option maxHeartbeats 400000 in
set_option maxRecDepth 100000 in
theorem good_any {σ : World} {F : List Res} (x y : Int) (hx : -9223372036854775808 ≤ x ∧ x ≤ 9223372036854775807) (hy : -9223372036854775808 ≤ y ∧ y ≤ 9223372036854775807) :
    FnT Try.prog σ F 17 [frac x y] [] (fun u ρ => u = .bool (decide (goodB x y)) ∧ ρ = []) := by
  refine fn_of 18 Try.func17 rfl Try.ntmps17 rfl ?_
  refine w_seq ?_
  refine w_region ?_
  refine wl_op [] rfl rfl rfl rfl (op_box (T := 24) (l := 1) rfl) ?_
  rintro _ _ ⟨b1, rfl, rfl⟩
  refine wl_det rfl rfl rfl (op_assign rfl) ?_
  refine wl_nil ?_
  refine st_tn ?_
  refine w_seq ?_
  refine w_cutL [(2, .bool (decide (goodB x y)))] [] [1] rfl (fun K' hK => ?_) ?_
  · -- cut r1
    refine w_region ?_
    refine wl_det rfl rfl rfl (op_loadA rfl tA24c (Ent.lab (l := 1) rfl (says_cel 0)) (Nat.le_of_ble_eq_true rfl)) ?_
    refine wl_det rfl rfl rfl (op_fn Try.func48 rfl rfl rfl (fcheck_any _ _ (by omega) (by omega))) ?_
    refine wl_det rfl rfl rfl (op_eql rfl rfl) ?_
    refine wl_det rfl rfl rfl (op_move rfl) ?_
    refine wl_gsplit (t := 6) rfl (fun hg6 => ?_) (fun hg6 => ?_)
    · -- 6 is True
      refine wl_wanted_det rfl rfl rfl rfl rfl rfl rfl (op_fieldAddr (off := 0) rfl tF24_0c) ?_
      refine wl_wanted_det rfl rfl rfl rfl rfl rfl rfl (op_load1 rfl tO3c (Ent.lab (l := 1) rfl (says_cel 0))) ?_
      refine wl_wanted_det rfl rfl rfl rfl rfl rfl rfl (op_gtr rfl rfl) ?_
      refine wl_det rfl rfl rfl (op_pick_t rfl rfl) ?_
      refine wl_det rfl rfl rfl (op_move rfl) ?_
      refine wl_gsplit (t := 11) rfl (fun hg11 => ?_) (fun hg11 => ?_)
      · -- 11 is True
        refine wl_wanted_det rfl rfl rfl rfl rfl rfl rfl (op_fieldAddr (off := 0) rfl tF24_0c) ?_
        refine wl_wanted_det rfl rfl rfl rfl rfl rfl rfl (op_load1 rfl tO3c (Ent.lab (l := 1) rfl (says_cel 0))) ?_
        refine wl_wanted_det rfl rfl rfl rfl rfl rfl rfl (op_fieldAddr (off := 1) rfl tF24_1c) ?_
        refine wl_wanted_det rfl rfl rfl rfl rfl rfl rfl (op_load1 rfl tO3c (Ent.lab (l := 1) rfl (says_cel 1))) ?_
        refine wl_wanted_det rfl rfl rfl rfl rfl rfl rfl (op_leq rfl rfl) ?_
        refine wl_det rfl rfl rfl (op_pick_t rfl rfl) ?_
        refine wl_det rfl rfl rfl (op_assign rfl) ?_
        refine wl_nil ?_
        refine st_tn ?_
        exact cut_done1 [1] hK rfl (by unfold goodB; unfold chkF at *; by_cases h1 : mkF x y = (x, y, 0) <;> simp_all <;> omega) (by rfl) rfl rfl
      · -- 11 is False
        refine wl_unwanted rfl rfl rfl rfl rfl rfl rfl rfl ?_
        refine wl_unwanted rfl rfl rfl rfl rfl rfl rfl rfl ?_
        refine wl_unwanted rfl rfl rfl rfl rfl rfl rfl rfl ?_
        refine wl_unwanted rfl rfl rfl rfl rfl rfl rfl rfl ?_
        refine wl_unwanted rfl rfl rfl rfl rfl rfl rfl rfl ?_
        refine wl_det rfl rfl rfl (op_pick_f rfl rfl) ?_
        refine wl_det rfl rfl rfl (op_assign rfl) ?_
        refine wl_nil ?_
        refine st_tn ?_
        exact cut_done1 [1] hK rfl (by unfold goodB; unfold chkF at *; by_cases h1 : mkF x y = (x, y, 0) <;> simp_all <;> omega) (by rfl) rfl rfl
    · -- 6 is False
      refine wl_unwanted rfl rfl rfl rfl rfl rfl rfl rfl ?_
      refine wl_unwanted rfl rfl rfl rfl rfl rfl rfl rfl ?_
      refine wl_unwanted rfl rfl rfl rfl rfl rfl rfl rfl ?_
      refine wl_det rfl rfl rfl (op_pick_f rfl rfl) ?_
      refine wl_det rfl rfl rfl (op_move rfl) ?_
      refine wl_unwanted rfl rfl rfl rfl rfl rfl rfl rfl ?_
      refine wl_unwanted rfl rfl rfl rfl rfl rfl rfl rfl ?_
      refine wl_unwanted rfl rfl rfl rfl rfl rfl rfl rfl ?_
      refine wl_unwanted rfl rfl rfl rfl rfl rfl rfl rfl ?_
      refine wl_unwanted rfl rfl rfl rfl rfl rfl rfl rfl ?_
      refine wl_det rfl rfl rfl (op_pick_f rfl rfl) ?_
      refine wl_det rfl rfl rfl (op_assign rfl) ?_
      refine wl_nil ?_
      refine st_tn ?_
      exact cut_done1 [1] hK rfl (by unfold goodB; unfold chkF at *; by_cases h1 : mkF x y = (x, y, 0) <;> simp_all <;> omega) (by rfl) rfl rfl
  · -- behind r1
    show W _ _ _ _ _ [(2, _)] [(1, _)] _
    refine w_ret ?_
    refine st_ret (vs := [_]) [] Try.results17 ⟨rfl, trivial⟩ rfl ?_
    refine ⟨_, rfl, ?_⟩
    exact ⟨rfl, rfl⟩

set_option maxHeartbeats 400000 in
set_option maxRecDepth 100000 in
theorem points_any {σ : World} {F : List Res} {a : Option Addr} {c : Nat} {l : List Int} (lab : Nat) (h : Sl σ F encY 1 (.slice a l.length c) l) (hb : ∀ x ∈ l, 0 ≤ x ∧ x ≤ 255) :
    FnT Try.prog σ F 14 [.slice a l.length c] [] (NewZ (l.take 30) lab) := by
  refine fn_of 24 Try.func14 rfl Try.ntmps14 rfl ?_
  have hle := h.i64
  refine w_seq ?_
  refine w_region ?_
  refine wl_det rfl rfl rfl (op_assign rfl) ?_
  refine wl_nil ?_
  refine st_tn ?_
  refine w_seq ?_
  refine w_region ?_
  refine wl_det rfl rfl rfl (op_assign rfl) ?_
  refine wl_nil ?_
  refine st_tn ?_
  refine w_seq ?_
  refine w_seq ?_
  refine w_region ?_
  refine wl_det rfl rfl rfl (op_assign rfl) ?_
  refine wl_nil ?_
  refine st_tn ?_
  refine w_block ?_
  refine w_emp 3 (slO_nil 3 1) ?_
  refine w_loopQ (X := Nat × List Int × Option Addr × Nat) (fun z => (z.1 ≤ l.length ∧ z.1 ≤ 30) ∧ z.2.1 = l.take z.1) (fun z => [(4, .int .i64 (z.1)), (3, .slice (z.2.2.1) (z.2.1).length (z.2.2.2))]) (fun z => [(3, slW 3 encZ 1 (.slice (z.2.2.1) (z.2.1).length (z.2.2.2)) (z.2.1))]) (fun z => 30 - z.1) ((0, [], none, 0)) [(0, _)] [] [3] rfl (rfl) (.cons rfl (.cons rfl (.nil _))) (.cons rfl (.nil _)) (by
      try dsimp only
      exact ⟨⟨Nat.zero_le _, Nat.zero_le _⟩, rfl⟩) ?_
  rintro ⟨i, out, a_out, c_out⟩ ⟨⟨hi, hi2⟩, ho⟩
  refine w_norm2 (by dsimp only [List.cons_append, List.nil_append]) (by dsimp only [List.cons_append, List.nil_append]) ?_
  try dsimp only at hi hi2 ho ⊢
  refine w_seq ?_
  refine w_seq ?_
  refine w_cutL [(12, .bool (decide (i < l.length ∧ i < 30)))] [0, 3, 4] [3] rfl (fun K' hK => ?_) ?_
  · -- cut r3
    refine w_region ?_
    refine wl_det rfl rfl rfl (op_move rfl) ?_
    refine wl_det rfl rfl rfl (op_move rfl) ?_
    refine wl_det rfl rfl rfl (op_lenT rfl tS22c (Sl.ent (by first | exact Sl.app (by assumption) _ | exact Sl.app (Sl.app (by assumption) _) _))) ?_
    refine wl_det rfl rfl rfl (op_lss rfl rfl) ?_
    refine wl_det rfl rfl rfl (op_move rfl) ?_
    refine wl_gsplit (t := 9) rfl (fun hg9 => ?_) (fun hg9 => ?_)
    · -- 9 is True
      refine wl_wanted_det rfl rfl rfl rfl rfl rfl rfl (op_move rfl) ?_
      refine wl_wanted_det rfl rfl rfl rfl rfl rfl rfl (op_lss rfl rfl) ?_
      refine wl_det rfl rfl rfl (op_pick_t rfl rfl) ?_
      refine wl_nil ?_
      refine st_tn ?_
      exact cut_done1 [3] hK rfl (by first | (rw [decide_eq_decide]; omega) | (symm; rw [decide_eq_false_iff_not]; omega) | (symm; rw [decide_eq_true_iff]; omega) | (simp; done) | (simp; omega) | (simp [*]; done) | (simp [*]; omega)) (by rfl) rfl rfl
    · -- 9 is False
      refine wl_unwanted rfl rfl rfl rfl rfl rfl rfl rfl ?_
      refine wl_unwanted rfl rfl rfl rfl rfl rfl rfl rfl ?_
      refine wl_det rfl rfl rfl (op_pick_f rfl rfl) ?_
      refine wl_nil ?_
      refine st_tn ?_
      exact cut_done1 [3] hK rfl (by first | (rw [decide_eq_decide]; omega) | (symm; rw [decide_eq_false_iff_not]; omega) | (symm; rw [decide_eq_true_iff]; omega) | (simp; done) | (simp; omega) | (simp [*]; done) | (simp [*]; omega)) (by rfl) rfl rfl
  · -- behind r3
    show W _ _ _ _ _ [(12, _), (0, _), (3, _), (4, _)] [(3, _)] _
    refine w_cond_d rfl (fun hc12 => ?_) (fun hc12 => ?_)
    · -- c12.t
      obtain ⟨x, hx⟩ := getE (l := l) (i := i) hc12.1
      have hlt := ltE hx
      have hxb := hb x (List.mem_of_getElem? hx)
      have hol : out.length = i := by rw [ho, List.length_take]; omega
      refine w_skip ?_
      refine st_tn ?_
      refine w_seq ?_
      refine w_block ?_
      refine w_region ?_
      refine wl_det rfl rfl rfl (op_move rfl) ?_
      refine wl_det rfl rfl rfl (op_move rfl) ?_
      refine wl_det rfl rfl rfl (op_move rfl) ?_
      refine wl_det rfl rfl rfl (op_idx rfl rfl tS22c (Sl.ent (by first | exact Sl.app (by assumption) _ | exact Sl.app (Sl.app (by assumption) _) _)) (by omega)) ?_
      refine wl_det rfl rfl rfl (op_ldx rfl tO5c (by first | exact Sl.app (by assumption) _ | exact Sl.app (Sl.app (by assumption) _) _) (by assumption) (by rfl)) ?_
      refine wl_det rfl rfl rfl (op_convI64 rfl (by rw [Try.underlying5]; rfl) Try.underlying3 (by omega)) ?_
      refine wl_op [] rfl rfl rfl rfl (op_buildSlice (enc := encZ) (l := [_]) (lab := 21) tL25_1c rfl rfl (fun _ => rfl) rfl) ?_
      rintro _ _ ⟨a21, c21, rfl, rfl⟩
      refine wl_op [3] rfl rfl rfl rfl (op_append (lab := 3) (lab' := 22) rfl rfl tP25c enc1Z (Sl.lab 21 rfl (by simp [maxLen])) (by first | omega | (simp; done) | (simp; omega) | (simp [*]; omega)) (by first | omega | (simp; done) | (simp; omega) | (simp [*]; omega))) ?_
      rintro _ _ ⟨a22, c22, rfl, rfl⟩
      refine wl_det rfl rfl rfl (op_assign rfl) ?_
      refine wl_nil ?_
      refine st_bn ?_
      refine st_tn ?_
      refine w_region ?_
      refine wl_det rfl rfl rfl (op_move rfl) ?_
      refine wl_det rfl rfl rfl (op_add' rfl rfl (by omega)) ?_
      refine wl_det rfl rfl rfl (op_assign rfl) ?_
      refine wl_nil ?_
      refine st_roundQ (x := (i, out, a_out, c_out)) ((i + 1, _, _, _)) [22] rfl (rfl) (.cons rfl (.cons rfl (.nil _))) (.cons rfl (.nil _)) (by
          try dsimp only
          exact ⟨⟨by omega, by omega⟩, by rw [take_snoc hx, ho]⟩) (by
          try dsimp only
          omega) 
    · -- c12.f
      refine w_exit ?_
      refine st_te ?_
      refine st_te ?_
      refine st_be ?_
      refine st_tn ?_
      refine w_seq ?_
      refine w_region ?_
      refine wl_det rfl rfl rfl (op_move rfl) ?_
      refine wl_det rfl rfl rfl (op_assign rfl) ?_
      refine wl_nil ?_
      refine st_tn ?_
      refine w_ret ?_
      refine st_ret (vs := [_]) [3] Try.results14 ⟨rfl, trivial⟩ rfl ?_
      refine ⟨[(lab, _)], rfl, ?_⟩
      have hfin : l.take 30 = out := by
        rw [ho]
        rcases Nat.lt_or_ge i 30 with h12 | h12
        · rw [List.take_of_length_le (by omega), List.take_of_length_le (by omega)]
        · rw [show i = 30 by omega]
      rw [hfin]; exact ⟨_, _, rfl, rfl⟩

set_option maxHeartbeats 400000 in
set_option maxRecDepth 100000 in
theorem ints_any {σ : World} {F : List Res} {a b : Option Addr} {c d : Nat} {l m : List Int} (h : Sl σ F encZ 1 (.slice a l.length c) l) (g : Sl σ F encZ 1 (.slice b m.length d) m) :
    FnT Try.prog σ F 22 [.slice a l.length c, .slice b m.length d] [] (fun u ρ => u = .bool (decide (l = m)) ∧ ρ = []) := by
  refine fn_of 26 Try.func22 rfl Try.ntmps22 rfl ?_
  have hle := h.i64
  have gle := g.i64
  refine w_seq ?_
  refine w_region ?_
  refine wl_det rfl rfl rfl (op_assign rfl) ?_
  refine wl_nil ?_
  refine st_tn ?_
  refine w_seq ?_
  refine w_seq ?_
  refine w_region ?_
  refine wl_det rfl rfl rfl (op_move rfl) ?_
  refine wl_det rfl rfl rfl (op_lenT rfl tS25c (Sl.ent (by first | exact Sl.app (by assumption) _ | exact Sl.app (Sl.app (by assumption) _) _))) ?_
  refine wl_det rfl rfl rfl (op_move rfl) ?_
  refine wl_det rfl rfl rfl (op_lenT rfl tS25c (Sl.ent (by first | exact Sl.app (by assumption) _ | exact Sl.app (Sl.app (by assumption) _) _))) ?_
  refine wl_det rfl rfl rfl (op_neq rfl rfl) ?_
  refine wl_nil ?_
  refine st_tn ?_
  refine w_cond_d rfl (fun hc10 => ?_) (fun hc10 => ?_)
  · -- c10.t
    refine w_seq ?_
    refine w_region ?_
    refine wl_det rfl rfl rfl (op_assign rfl) ?_
    refine wl_nil ?_
    refine st_tn ?_
    refine w_ret ?_
    refine st_tr ?_
    refine st_ret (vs := [_]) [] Try.results22 ⟨rfl, trivial⟩ rfl ?_
    refine ⟨_, rfl, ?_⟩
    refine ⟨?_, rfl⟩; have : l ≠ m := fun e => by subst e; exact hc10 rfl
    simp [retv, this]
  · -- c10.f
    refine w_skip ?_
    refine st_tn ?_
    refine w_seq ?_
    refine w_seq ?_
    refine w_region ?_
    refine wl_det rfl rfl rfl (op_assign rfl) ?_
    refine wl_nil ?_
    refine st_tn ?_
    refine w_block ?_
    refine w_loopQ (X := Nat) (fun z => z ≤ l.length ∧ l.take z = m.take z) (fun z => [(5, .int .i64 (z))]) (fun _ => []) (fun z => l.length - z) (0) [(0, _), (1, _)] [] [] rfl (rfl) (.cons rfl (.nil _)) (.cons rfl (.cons rfl (.nil _))) (by
        try dsimp only
        exact ⟨Nat.zero_le _, by simp⟩) ?_
    rintro i ⟨hi, hn⟩
    refine w_norm2 (by dsimp only [List.cons_append, List.nil_append]) (by dsimp only [List.cons_append, List.nil_append]) ?_
    try dsimp only at hi hn ⊢
    refine w_seq ?_
    refine w_seq ?_
    refine w_region ?_
    refine wl_det rfl rfl rfl (op_move rfl) ?_
    refine wl_det rfl rfl rfl (op_move rfl) ?_
    refine wl_det rfl rfl rfl (op_lenT rfl tS25c (Sl.ent (by first | exact Sl.app (by assumption) _ | exact Sl.app (Sl.app (by assumption) _) _))) ?_
    refine wl_det rfl rfl rfl (op_lss rfl rfl) ?_
    refine wl_nil ?_
    refine st_tn ?_
    refine w_cond_d rfl (fun hc14 => ?_) (fun hc14 => ?_)
    · -- c14.t
      obtain ⟨y, hy⟩ := getE (l := l) (i := i) (by omega)
      obtain ⟨z, hz⟩ := getE (l := m) (i := i) (by omega)
      have hlt := ltE hy
      refine w_skip ?_
      refine st_tn ?_
      refine w_seq ?_
      refine w_block ?_
      refine w_seq ?_
      refine w_draw (D := [⟨17, [], [], [], _, false, [], []⟩, ⟨18, [], [], [], _, false, [], []⟩, ⟨19, [0, 1], [], [], _, false, [], []⟩, ⟨20, [2], [], [], _, false, [], []⟩, ⟨21, [], [], [], _, false, [], []⟩, ⟨22, [], [], [], _, false, [], []⟩, ⟨23, [4, 5], [], [], _, false, [], []⟩, ⟨24, [6], [], [], _, false, [], []⟩]) [] [0, 5, 1] [⟨17, [], [], false, [], []⟩, ⟨18, [], [], false, [], []⟩, ⟨19, [0, 1], [], false, [], []⟩, ⟨20, [2], [], false, [], []⟩, ⟨21, [], [], false, [], []⟩, ⟨22, [], [], false, [], []⟩, ⟨23, [4, 5], [], false, [], []⟩, ⟨24, [6], [], false, [], []⟩] tMixc (by rfl) (by kernel_rfl) (by rfl) (by rfl)
          ⟨.plain rfl (by intro X; exact op_move rfl),
          ⟨.plain rfl (by intro X; exact op_move rfl),
          ⟨.plain rfl (by intro X; rintro _ _ ⟨rfl, rfl⟩ _ _ ⟨rfl, rfl⟩; exact op_idx rfl rfl tS25c (Sl.ent (by first | exact Sl.app (by assumption) _ | exact Sl.app (Sl.app (by assumption) _) _)) (by omega)),
          ⟨.plain rfl (by intro X; rintro _ _ ⟨rfl, rfl⟩; exact op_ldx rfl tO3c (by first | exact Sl.app (by assumption) _ | exact Sl.app (Sl.app (by assumption) _) _) (by assumption) (by rfl)),
          ⟨.plain rfl (by intro X; exact op_move rfl),
          ⟨.plain rfl (by intro X; exact op_move rfl),
          ⟨.plain rfl (by intro X; rintro _ _ ⟨rfl, rfl⟩ _ _ ⟨rfl, rfl⟩; exact op_idx rfl rfl tS25c (Sl.ent (by first | exact Sl.app (by assumption) _ | exact Sl.app (Sl.app (by assumption) _) _)) (by omega)),
          ⟨.plain rfl (by intro X; rintro _ _ ⟨rfl, rfl⟩; exact op_ldx rfl tO3c (by first | exact Sl.app (by assumption) _ | exact Sl.app (Sl.app (by assumption) _) _) (by assumption) (by rfl)),
          trivial⟩⟩⟩⟩⟩⟩⟩⟩ ?_
      rintro _ _ ⟨rfl, rfl⟩ _ _ ⟨rfl, rfl⟩ _ _ ⟨rfl, rfl⟩ _ _ ⟨rfl, rfl⟩ _ _ ⟨rfl, rfl⟩ _ _ ⟨rfl, rfl⟩ _ _ ⟨rfl, rfl⟩ _ _ ⟨rfl, rfl⟩
      refine wl_norm (e' := [(0, _), (1, _), (5, _), (20, _), (24, _)]) (.cons rfl (.cons rfl (.cons rfl (.cons rfl (.cons rfl (.nil _)))))) (by dsimp only [cond_false, cond_true, List.nil_append, List.cons_append]) ?_
      refine wl_det rfl rfl rfl (op_neq rfl rfl) ?_
      refine wl_nil ?_
      refine st_tn ?_
      refine w_cond_d rfl (fun hc25 => ?_) (fun hc25 => ?_)
      · -- c25.t
        refine w_seq ?_
        refine w_region ?_
        refine wl_det rfl rfl rfl (op_assign rfl) ?_
        refine wl_nil ?_
        refine st_tn ?_
        refine w_ret ?_
        refine st_br ?_
        refine st_tr ?_
        refine st_tr ?_
        refine st_br ?_
        refine st_tr ?_
        refine st_ret (vs := [_]) [] Try.results22 ⟨rfl, trivial⟩ rfl ?_
        refine ⟨_, rfl, ?_⟩
        refine ⟨?_, rfl⟩; have : l ≠ m := fun e => by subst e; rw [hy] at hz; simp at hz; exact hc25 hz
        simp [retv, this]
      · -- c25.f
        refine w_skip ?_
        refine st_bn ?_
        refine st_tn ?_
        refine w_region ?_
        refine wl_det rfl rfl rfl (op_move rfl) ?_
        refine wl_det rfl rfl rfl (op_add' rfl rfl (by omega)) ?_
        refine wl_det rfl rfl rfl (op_assign rfl) ?_
        refine wl_nil ?_
        refine st_roundQ (x := i) (i + 1) [] rfl (rfl) (.cons rfl (.nil _)) (.cons rfl (.cons rfl (.nil _))) (by
            try dsimp only
            exact ⟨by omega, by rw [take_snoc hy, take_snoc hz, hn, show y = z by omega]⟩) (by
            try dsimp only
            omega) 
    · -- c14.f
      refine w_exit ?_
      refine st_te ?_
      refine st_te ?_
      refine st_be ?_
      refine st_tn ?_
      refine w_seq ?_
      refine w_region ?_
      refine wl_det rfl rfl rfl (op_assign rfl) ?_
      refine wl_nil ?_
      refine st_tn ?_
      refine w_ret ?_
      refine st_ret (vs := [_]) [] Try.results22 ⟨rfl, trivial⟩ rfl ?_
      refine ⟨_, rfl, ?_⟩
      refine ⟨?_, rfl⟩; rw [take_all (by omega), take_all (by omega)] at hn; simp [retv, hn]

/-- The index of a quantile, from 1 on. -/
def rankOf (n : Nat) (x y : Int) : Int := (x * n + y - 1) / y
theorem rankOf_bd {n : Nat} {x y : Int} (hn : 0 < n) (h : goodB x y) : 1 ≤ rankOf n x y ∧ rankOf n x y ≤ n := by
  have hb := goodB_bd h
  unfold rankOf
  have h1 : x * 1 ≤ x * n := Int.mul_le_mul_of_nonneg_left (by omega) (by omega)
  have h2 : x * n ≤ y * n := Int.mul_le_mul_of_nonneg_right (by omega) (by omega)
  constructor
  · have := Int.ediv_le_ediv (a := y) (c := y) (b := x * n + y - 1) (by omega) (by omega)
    rwa [Int.ediv_self (by omega)] at this
  · have := Int.ediv_le_ediv (a := x * n + y - 1) (b := y * n + (y - 1)) (c := y) (by omega) (by omega)
    rw [Int.mul_add_ediv_left _ _ (by omega : y ≠ 0), Int.ediv_eq_zero_of_lt (a := y - 1) (b := y) (by omega) (by omega)] at this
    omega
/-- The quantile of values. -/
def quantZ (l : List Int) (x y : Int) : Int := if l = [] then 0 else (srt l).getD (rankOf l.length x y - 1).toNat 0
set_option maxHeartbeats 1000000 in
set_option maxRecDepth 100000 in
theorem rank_any {σ : World} {F : List Res} {a : Option Addr} {c : Nat} {l : List Int} (x y : Int) (h : Sl σ F encZ 1 (.slice a l.length c) l) (hl : l.length ≤ 1099511627776) (hg : goodB x y) :
    FnT Try.prog σ F 47 [.slice a l.length c, frac x y] [] (fun u ρ => u = .int .i64 (quantZ l x y) ∧ ρ = []) := by
  refine fn_of 26 Try.func47 rfl Try.ntmps47 rfl ?_
  have hb := goodB_bd hg
  have hm1 : x * l.length ≤ 1048576 * 1099511627776 := Int.mul_le_mul (by omega) (by omega) (by omega) (by omega)
  have hm0 : 0 ≤ x * l.length := Int.mul_nonneg (by omega) (by omega)
  refine w_seq ?_
  refine w_region ?_
  refine wl_op [] rfl rfl rfl rfl (op_box (T := 24) (l := 3) rfl) ?_
  rintro _ _ ⟨b3, rfl, rfl⟩
  refine wl_det rfl rfl rfl (op_assign rfl) ?_
  refine wl_nil ?_
  refine st_tn ?_
  refine w_seq ?_
  refine w_seq ?_
  refine w_region ?_
  refine wl_det rfl rfl rfl (op_move rfl) ?_
  refine wl_det rfl rfl rfl (op_lenT rfl tS25c (Sl.ent (by first | exact Sl.app (by assumption) _ | exact Sl.app (Sl.app (by assumption) _) _))) ?_
  refine wl_det rfl rfl rfl (op_eql rfl rfl) ?_
  refine wl_nil ?_
  refine st_tn ?_
  refine w_cond_d rfl (fun hc7 => ?_) (fun hc7 => ?_)
  · -- c7.t
    refine w_seq ?_
    refine w_region ?_
    refine wl_det rfl rfl rfl (op_assign rfl) ?_
    refine wl_nil ?_
    refine st_tn ?_
    refine w_ret ?_
    refine st_tr ?_
    refine st_ret (vs := [_]) [] Try.results47 ⟨rfl, trivial⟩ rfl ?_
    refine ⟨_, rfl, ?_⟩
    refine ⟨?_, rfl⟩; unfold quantZ; rw [if_pos (List.eq_nil_of_length_eq_zero (by omega))]; rfl
  · -- c7.f
    have hr := rankOf_bd (n := l.length) (by omega) hg
    have hrk : (x * (l.length : Int) + y - 1) / y = rankOf l.length x y := rfl
    have hls := length_srt l
    obtain ⟨z, hz⟩ := getE (l := srt l) (i := (rankOf l.length x y - 1).toNat) (by omega)
    have hz0 := hz
    refine w_skip ?_
    refine st_tn ?_
    refine w_seq ?_
    refine w_draw (D := [⟨8, [], [], [], _, false, [], []⟩, ⟨9, [0], [], [], _, false, [], []⟩, ⟨10, [1], [], [], _, false, [], []⟩, ⟨11, [], [], [], _, false, [], []⟩, ⟨12, [3], [], [], _, false, [], []⟩, ⟨13, [], [], [], _, false, [], []⟩, ⟨14, [5], [], [], _, false, [], []⟩, ⟨15, [4, 6], [], [], _, false, [], []⟩, ⟨16, [], [], [], _, false, [], []⟩, ⟨17, [8], [], [], _, false, [], []⟩, ⟨18, [7, 9], [], [], _, false, [], []⟩, ⟨19, [10], [], [], _, false, [], []⟩, ⟨20, [], [], [], _, false, [], []⟩, ⟨21, [12], [], [], _, false, [], []⟩, ⟨22, [11, 13], [], [], _, false, [], []⟩, ⟨23, [14], [], [], _, false, [], []⟩]) [] [0, 3] [⟨8, [], [], false, [], []⟩, ⟨9, [0], [], false, [], []⟩, ⟨10, [1], [], false, [], []⟩, ⟨11, [], [], false, [], []⟩, ⟨12, [3], [], false, [], []⟩, ⟨13, [], [], false, [], []⟩, ⟨14, [5], [], false, [], []⟩, ⟨15, [4, 6], [], false, [], []⟩, ⟨16, [], [], false, [], []⟩, ⟨17, [8], [], false, [], []⟩, ⟨18, [7, 9], [], false, [], []⟩, ⟨19, [10], [], false, [], []⟩, ⟨20, [], [], false, [], []⟩, ⟨21, [12], [], false, [], []⟩, ⟨22, [11, 13], [], false, [], []⟩, ⟨23, [14], [], false, [], []⟩] tMixc (by rfl) (by kernel_rfl) (by rfl) (by rfl)
        ⟨.plain rfl (by intro X; exact op_move rfl),
        ⟨.plain rfl (by intro X; rintro _ _ ⟨rfl, rfl⟩; exact op_fn Try.func75 rfl rfl rfl (values_any (v := .slice a l.length c) 9)),
        ⟨.plain rfl (by intro X; rintro _ _ ⟨b9, rfl, rfl⟩; exact op_fn Try.func74 rfl rfl rfl (sorted_any 10 (Ent.lab (l := 9) rfl (says_cel 0)) (by first | exact Sl.app h _ | exact Sl.app (Sl.app h _) _) hl)),
        ⟨.plain rfl (by intro X; exact op_fieldAddr (off := 0) rfl tF24_0c),
        ⟨.plain rfl (by intro X; rintro _ _ ⟨rfl, rfl⟩; exact op_load1 rfl tO3c (Ent.lab (l := 3) rfl (says_cel 0))),
        ⟨.plain rfl (by intro X; exact op_move rfl),
        ⟨.plain rfl (by intro X; rintro _ _ ⟨rfl, rfl⟩; exact op_lenT rfl tS25c (Sl.ent (by first | exact Sl.app (by assumption) _ | exact Sl.app (Sl.app (by assumption) _) _))),
        ⟨.plain rfl (by intro X; rintro _ _ ⟨rfl, rfl⟩ _ _ ⟨rfl, rfl⟩; exact op_mul' rfl rfl (by omega)),
        ⟨.plain rfl (by intro X; exact op_fieldAddr (off := 1) rfl tF24_1c),
        ⟨.plain rfl (by intro X; rintro _ _ ⟨rfl, rfl⟩; exact op_load1 rfl tO3c (Ent.lab (l := 3) rfl (says_cel 1))),
        ⟨.plain rfl (by intro X; rintro _ _ ⟨rfl, rfl⟩ _ _ ⟨rfl, rfl⟩; exact op_add' rfl rfl (by omega)),
        ⟨.plain rfl (by intro X; rintro _ _ ⟨rfl, rfl⟩; exact op_sub' rfl rfl (by omega)),
        ⟨.plain rfl (by intro X; exact op_fieldAddr (off := 1) rfl tF24_1c),
        ⟨.plain rfl (by intro X; rintro _ _ ⟨rfl, rfl⟩; exact op_load1 rfl tO3c (Ent.lab (l := 3) rfl (says_cel 1))),
        ⟨.plain rfl (by intro X; rintro _ _ ⟨rfl, rfl⟩ _ _ ⟨rfl, rfl⟩; exact op_quoN rfl rfl (by omega) (by omega) (by omega)),
        ⟨.plain rfl (by intro X; rintro _ _ ⟨rfl, rfl⟩; exact op_sub' rfl rfl (by omega)),
        trivial⟩⟩⟩⟩⟩⟩⟩⟩⟩⟩⟩⟩⟩⟩⟩⟩ ?_
    rintro _ _ ⟨rfl, rfl⟩ _ _ ⟨b9, rfl, rfl⟩ _ _ ⟨a10, c10, rfl, rfl⟩ _ _ ⟨rfl, rfl⟩ _ _ ⟨rfl, rfl⟩ _ _ ⟨rfl, rfl⟩ _ _ ⟨rfl, rfl⟩ _ _ ⟨rfl, rfl⟩ _ _ ⟨rfl, rfl⟩ _ _ ⟨rfl, rfl⟩ _ _ ⟨rfl, rfl⟩ _ _ ⟨rfl, rfl⟩ _ _ ⟨rfl, rfl⟩ _ _ ⟨rfl, rfl⟩ _ _ ⟨rfl, rfl⟩ _ _ ⟨rfl, rfl⟩
    refine wl_norm (e' := [(10, _), (23, _)]) (.cons rfl (.cons rfl (.nil _))) (by dsimp only [cond_false, cond_true, List.nil_append, List.cons_append]) ?_
    refine wl_det rfl rfl rfl (op_idxZ rfl rfl tS25c (Sl.ent (Sl.lab 10 rfl (by unfold maxLen; omega))) (by omega) (by omega)) ?_
    refine wl_det rfl rfl rfl (op_ldx rfl tO3c (Sl.lab 10 rfl (by unfold maxLen; omega)) (by assumption) (by rfl)) ?_
    refine wl_det rfl rfl rfl (op_assign rfl) ?_
    refine wl_nil ?_
    refine st_tn ?_
    refine w_ret ?_
    refine st_ret (vs := [_]) [] Try.results47 ⟨rfl, trivial⟩ rfl ?_
    refine ⟨_, rfl, ?_⟩
    refine ⟨?_, rfl⟩; unfold quantZ
    rw [if_neg (fun e => by subst e; simp at hc7), List.getD_eq_getElem?_getD]
    rw [hz0]; rfl

theorem sorted_take {s : List Int} (hs : s.Pairwise (· ≤ ·)) {j : Nat} {z : Int} (hz : s[j]? = some z) : (∀ x ∈ s.take (j + 1), x ≤ z) ∧ (∀ x ∈ s.drop j, z ≤ x) := by
  obtain ⟨hj, rfl⟩ := List.getElem?_eq_some_iff.1 hz
  constructor
  · intro x hx
    obtain ⟨q, hq, rfl⟩ := List.mem_take_iff_getElem.1 hx
    rcases Nat.lt_or_ge q j with h | h
    · exact List.pairwise_iff_getElem.1 hs q j (by omega) hj h
    · obtain rfl : q = j := by omega
      exact Int.le_refl _
  · intro x hx
    obtain ⟨q, hq, rfl⟩ := List.mem_drop_iff_getElem.1 hx
    rcases Nat.eq_zero_or_pos q with h | h
    · subst h; exact Int.le_refl _
    · exact List.pairwise_iff_getElem.1 hs j (j + q) hj _ (by omega)
theorem countP_lt_le {s : List Int} (hs : s.Pairwise (· ≤ ·)) {j : Nat} {z : Int} (hz : s[j]? = some z) : s.countP (fun y => decide (y < z)) ≤ j ∧ j + 1 ≤ s.countP (fun y => decide (y ≤ z)) := by
  obtain ⟨h1, h2⟩ := sorted_take hs hz
  have hj := ltE hz
  constructor
  · rw [← List.take_append_drop j s, List.countP_append]
    have e : (s.drop j).countP (fun y => decide (y < z)) = 0 := by
      rw [List.countP_eq_zero]; intro y hy; have := h2 y hy; simp; omega
    have := List.countP_le_length (l := s.take j) (p := fun y => decide (y < z))
    rw [List.length_take] at this
    omega
  · rw [← List.take_append_drop (j + 1) s, List.countP_append]
    have e : (s.take (j + 1)).countP (fun y => decide (y ≤ z)) = (s.take (j + 1)).length := by
      rw [List.countP_eq_length]; intro y hy; have := h1 y hy; simp; omega
    rw [e, List.length_take]; omega
theorem quant_unique {l : List Int} {r : Int} {z v : Int} (hr : 1 ≤ r) (hz : (srt l)[(r - 1).toNat]? = some z) (h1 : (l.countP (fun y => decide (y < v)) : Int) < r) (h2 : r ≤ (l.countP (fun y => decide (y ≤ v)) : Int)) : v = z := by
  rw [← (srt_perm l).countP_eq] at h1 h2
  obtain ⟨q1, q2⟩ := sorted_take (srt_le l) hz
  have hj := ltE hz
  rcases Int.lt_trichotomy v z with h | h | h
  · exfalso
    have e : (srt l).countP (fun y => decide (y ≤ v)) ≤ (r - 1).toNat := by
      rw [← List.take_append_drop (r - 1).toNat (srt l), List.countP_append]
      have e : ((srt l).drop (r - 1).toNat).countP (fun y => decide (y ≤ v)) = 0 := by
        rw [List.countP_eq_zero]; intro y hy; have := q2 y hy; simp; omega
      have := List.countP_le_length (l := (srt l).take (r - 1).toNat) (p := fun y => decide (y ≤ v))
      rw [List.length_take] at this
      omega
    omega
  · exact h
  · exfalso
    have e : (r - 1).toNat + 1 ≤ (srt l).countP (fun y => decide (y < v)) := by
      rw [← List.take_append_drop ((r - 1).toNat + 1) (srt l), List.countP_append]
      have e : ((srt l).take ((r - 1).toNat + 1)).countP (fun y => decide (y < v)) = ((srt l).take ((r - 1).toNat + 1)).length := by
        rw [List.countP_eq_length]; intro y hy; have := q1 y hy; simp; omega
      rw [e, List.length_take]; omega
    omega
set_option maxHeartbeats 1000000 in
set_option maxRecDepth 100000 in
theorem lquant_any {σ : World} {F : List Res} {a : Option Addr} {c : Nat} {l : List Int} (x y : Int) (h : Sl σ F encZ 1 (.slice a l.length c) l) (hl : l.length ≤ 1099511627776) (hg : goodB x y) :
    FnT Try.prog σ F 18 [.slice a l.length c, frac x y] [] (fun u ρ => u = .int .i64 (quantZ l x y) ∧ ρ = []) := by
  refine fn_of 71 Try.func18 rfl Try.ntmps18 rfl ?_
  have hb := goodB_bd hg
  have hm1 : (l.length : Int) * x ≤ 1099511627776 * 1048576 := Int.mul_le_mul (by omega) (by omega) (by omega) (by omega)
  have hm0 : 0 ≤ (l.length : Int) * x := Int.mul_nonneg (by omega) (by omega)
  refine w_seq ?_
  refine w_region ?_
  refine wl_op [] rfl rfl rfl rfl (op_box (T := 24) (l := 3) rfl) ?_
  rintro _ _ ⟨b3, rfl, rfl⟩
  refine wl_det rfl rfl rfl (op_assign rfl) ?_
  refine wl_nil ?_
  refine st_tn ?_
  refine w_seq ?_
  refine w_seq ?_
  refine w_region ?_
  refine wl_det rfl rfl rfl (op_move rfl) ?_
  refine wl_det rfl rfl rfl (op_lenT rfl tS25c (Sl.ent (by first | exact Sl.app (by assumption) _ | exact Sl.app (Sl.app (by assumption) _) _))) ?_
  refine wl_det rfl rfl rfl (op_eql rfl rfl) ?_
  refine wl_nil ?_
  refine st_tn ?_
  refine w_cond_d rfl (fun hc12 => ?_) (fun hc12 => ?_)
  · -- c12.t
    refine w_seq ?_
    refine w_region ?_
    refine wl_det rfl rfl rfl (op_assign rfl) ?_
    refine wl_nil ?_
    refine st_tn ?_
    refine w_ret ?_
    refine st_tr ?_
    refine st_ret (vs := [_]) [] Try.results18 ⟨rfl, trivial⟩ rfl ?_
    refine ⟨_, rfl, ?_⟩
    refine ⟨?_, rfl⟩; unfold quantZ; rw [if_pos (List.eq_nil_of_length_eq_zero (by omega))]; rfl
  · -- c12.f
    have hr := rankOf_bd (n := l.length) (by omega) hg
    have hrk : ((l.length : Int) * x + y - 1) / y = rankOf l.length x y := by unfold rankOf; rw [Int.mul_comm]
    have hls := length_srt l
    obtain ⟨z, hz⟩ := getE (l := srt l) (i := (rankOf l.length x y - 1).toNat) (by omega)
    have hq : quantZ l x y = z := by
      unfold quantZ
      rw [if_neg (fun e => by subst e; simp at hc12), List.getD_eq_getElem?_getD, hz]; rfl
    refine w_skip ?_
    refine st_tn ?_
    refine w_seq ?_
    refine w_region ?_
    refine wl_det rfl rfl rfl (op_move rfl) ?_
    refine wl_det rfl rfl rfl (op_lenT rfl tS25c (Sl.ent (by first | exact Sl.app (by assumption) _ | exact Sl.app (Sl.app (by assumption) _) _))) ?_
    refine wl_det rfl rfl rfl (op_fieldAddr (off := 0) rfl tF24_0c) ?_
    refine wl_det rfl rfl rfl (op_load1 rfl tO3c (Ent.lab (l := 3) rfl (says_cel 0))) ?_
    refine wl_det rfl rfl rfl (op_mul' rfl rfl (by omega)) ?_
    refine wl_det rfl rfl rfl (op_fieldAddr (off := 1) rfl tF24_1c) ?_
    refine wl_det rfl rfl rfl (op_load1 rfl tO3c (Ent.lab (l := 3) rfl (says_cel 1))) ?_
    refine wl_det rfl rfl rfl (op_add' rfl rfl (by omega)) ?_
    refine wl_det rfl rfl rfl (op_sub' rfl rfl (by omega)) ?_
    refine wl_det rfl rfl rfl (op_fieldAddr (off := 1) rfl tF24_1c) ?_
    refine wl_det rfl rfl rfl (op_load1 rfl tO3c (Ent.lab (l := 3) rfl (says_cel 1))) ?_
    refine wl_det rfl rfl rfl (op_val (v' := .int .i64 (rankOf l.length x y)) (by rw [hrk]) (op_quoN rfl rfl (by omega) (by omega) (by omega))) ?_
    refine wl_det rfl rfl rfl (op_assign rfl) ?_
    refine wl_nil ?_
    refine st_tn ?_
    refine w_seq ?_
    refine w_seq ?_
    refine w_region ?_
    refine wl_det rfl rfl rfl (op_assign rfl) ?_
    refine wl_nil ?_
    refine st_tn ?_
    refine w_block ?_
    refine w_loopQ (X := Nat) (fun z => z ≤ l.length ∧ ∀ v ∈ l.take z, ¬ ((l.countP (fun y => decide (y < v)) : Int) < rankOf l.length x y ∧ rankOf l.length x y ≤ (l.countP (fun y => decide (y ≤ v)) : Int))) (fun z => [(6, .int .i64 (z))]) (fun _ => []) (fun z => l.length - z) (0) [(0, _), (5, _)] [(3, _)] [3] rfl (rfl) (.cons rfl (.nil _)) (.cons rfl (.cons rfl (.nil _))) (by
        try dsimp only
        exact ⟨Nat.zero_le _, by simp⟩) ?_
    rintro i ⟨hi, hno⟩
    refine w_norm2 (by dsimp only [List.cons_append, List.nil_append]) (by dsimp only [List.cons_append, List.nil_append]) ?_
    try dsimp only at hi hno ⊢
    refine w_seq ?_
    refine w_seq ?_
    refine w_region ?_
    refine wl_det rfl rfl rfl (op_move rfl) ?_
    refine wl_det rfl rfl rfl (op_move rfl) ?_
    refine wl_det rfl rfl rfl (op_lenT rfl tS25c (Sl.ent (by first | exact Sl.app (by assumption) _ | exact Sl.app (Sl.app (by assumption) _) _))) ?_
    refine wl_det rfl rfl rfl (op_lss rfl rfl) ?_
    refine wl_nil ?_
    refine st_tn ?_
    refine w_cond_d rfl (fun hc28 => ?_) (fun hc28 => ?_)
    · -- c28.t
      obtain ⟨v, hv⟩ := getE (l := l) (i := i) (by omega)
      have hlt := ltE hv
      refine w_skip ?_
      refine st_tn ?_
      refine w_seq ?_
      refine w_block ?_
      refine w_seq ?_
      refine w_region ?_
      refine wl_det rfl rfl rfl (op_assign rfl) ?_
      refine wl_det rfl rfl rfl (op_assign rfl) ?_
      refine wl_nil ?_
      refine st_tn ?_
      refine w_seq ?_
      refine w_seq ?_
      refine w_region ?_
      refine wl_det rfl rfl rfl (op_assign rfl) ?_
      refine wl_nil ?_
      refine st_tn ?_
      refine w_block ?_
      refine w_loopQ (X := Nat × Nat × Nat) (fun z => z.1 ≤ l.length ∧ z.2.1 = (l.take z.1).countP (fun y => decide (y < v)) ∧ z.2.2 = (l.take z.1).countP (fun y => decide (y ≤ v))) (fun z => [(9, .int .i64 (z.1)), (7, .int .i64 (z.2.1)), (8, .int .i64 (z.2.2))]) (fun _ => []) (fun z => l.length - z.1) ((0, 0, 0)) [(0, _), (5, _), (6, _)] [(3, _)] [3] rfl (rfl) (.cons rfl (.cons rfl (.cons rfl (.nil _)))) (.cons rfl (.cons rfl (.cons rfl (.nil _)))) (by
          try dsimp only
          exact ⟨Nat.zero_le _, by simp, by simp⟩) ?_
      rintro ⟨k, less, most⟩ ⟨hk, hless, hmost⟩
      refine w_norm2 (by dsimp only [List.cons_append, List.nil_append]) (by dsimp only [List.cons_append, List.nil_append]) ?_
      try dsimp only at hk hless hmost ⊢
      refine w_seq ?_
      refine w_seq ?_
      refine w_region ?_
      refine wl_det rfl rfl rfl (op_move rfl) ?_
      refine wl_det rfl rfl rfl (op_move rfl) ?_
      refine wl_det rfl rfl rfl (op_lenT rfl tS25c (Sl.ent (by first | exact Sl.app (by assumption) _ | exact Sl.app (Sl.app (by assumption) _) _))) ?_
      refine wl_det rfl rfl rfl (op_lss rfl rfl) ?_
      refine wl_nil ?_
      refine st_tn ?_
      refine w_cond_d rfl (fun hc34 => ?_) (fun hc34 => ?_)
      · -- c34.t
        obtain ⟨u, hu⟩ := getE (l := l) (i := k) (by omega)
        have hltu := ltE hu
        have hcl1 := List.countP_le_length (l := l.take k) (p := fun y => decide (y < v))
        have hcl2 := List.countP_le_length (l := l.take k) (p := fun y => decide (y ≤ v))
        rw [List.length_take] at hcl1 hcl2
        refine w_skip ?_
        refine st_tn ?_
        refine w_seq ?_
        refine w_block ?_
        refine w_seq ?_
        refine w_seq ?_
        refine w_draw (D := [⟨37, [], [], [], _, false, [], []⟩, ⟨38, [], [], [], _, false, [], []⟩, ⟨39, [0, 1], [], [], _, false, [], []⟩, ⟨40, [2], [], [], _, false, [], []⟩, ⟨41, [], [], [], _, false, [], []⟩, ⟨42, [], [], [], _, false, [], []⟩, ⟨43, [4, 5], [], [], _, false, [], []⟩, ⟨44, [6], [], [], _, false, [], []⟩]) [] [0, 9, 6] [⟨37, [], [], false, [], []⟩, ⟨38, [], [], false, [], []⟩, ⟨39, [0, 1], [], false, [], []⟩, ⟨40, [2], [], false, [], []⟩, ⟨41, [], [], false, [], []⟩, ⟨42, [], [], false, [], []⟩, ⟨43, [4, 5], [], false, [], []⟩, ⟨44, [6], [], false, [], []⟩] tMixc (by rfl) (by kernel_rfl) (by rfl) (by rfl)
            ⟨.plain rfl (by intro X; exact op_move rfl),
            ⟨.plain rfl (by intro X; exact op_move rfl),
            ⟨.plain rfl (by intro X; rintro _ _ ⟨rfl, rfl⟩ _ _ ⟨rfl, rfl⟩; exact op_idx rfl rfl tS25c (Sl.ent (by first | exact Sl.app (by assumption) _ | exact Sl.app (Sl.app (by assumption) _) _)) (by omega)),
            ⟨.plain rfl (by intro X; rintro _ _ ⟨rfl, rfl⟩; exact op_ldx rfl tO3c (by first | exact Sl.app (by assumption) _ | exact Sl.app (Sl.app (by assumption) _) _) (by assumption) (by rfl)),
            ⟨.plain rfl (by intro X; exact op_move rfl),
            ⟨.plain rfl (by intro X; exact op_move rfl),
            ⟨.plain rfl (by intro X; rintro _ _ ⟨rfl, rfl⟩ _ _ ⟨rfl, rfl⟩; exact op_idx rfl rfl tS25c (Sl.ent (by first | exact Sl.app (by assumption) _ | exact Sl.app (Sl.app (by assumption) _) _)) (by omega)),
            ⟨.plain rfl (by intro X; rintro _ _ ⟨rfl, rfl⟩; exact op_ldx rfl tO3c (by first | exact Sl.app (by assumption) _ | exact Sl.app (Sl.app (by assumption) _) _) (by assumption) (by rfl)),
            trivial⟩⟩⟩⟩⟩⟩⟩⟩ ?_
        rintro _ _ ⟨rfl, rfl⟩ _ _ ⟨rfl, rfl⟩ _ _ ⟨rfl, rfl⟩ _ _ ⟨rfl, rfl⟩ _ _ ⟨rfl, rfl⟩ _ _ ⟨rfl, rfl⟩ _ _ ⟨rfl, rfl⟩ _ _ ⟨rfl, rfl⟩
        refine wl_norm (e' := [(0, _), (5, _), (6, _), (7, _), (8, _), (9, _), (40, _), (44, _)]) (.cons rfl (.cons rfl (.cons rfl (.cons rfl (.cons rfl (.cons rfl (.cons rfl (.cons rfl (.nil _))))))))) (by dsimp only [cond_false, cond_true, List.nil_append, List.cons_append]) ?_
        refine wl_det rfl rfl rfl (op_lss rfl rfl) ?_
        refine wl_nil ?_
        refine st_tn ?_
        refine w_cond_d rfl (fun hc45 => ?_) (fun hc45 => ?_)
        · -- c45.t
          refine w_region ?_
          refine wl_det rfl rfl rfl (op_move rfl) ?_
          refine wl_det rfl rfl rfl (op_add' rfl rfl (by omega)) ?_
          refine wl_det rfl rfl rfl (op_assign rfl) ?_
          refine wl_nil ?_
          refine st_tn ?_
          refine w_seq ?_
          refine w_draw (D := [⟨48, [], [], [], _, false, [], []⟩, ⟨49, [], [], [], _, false, [], []⟩, ⟨50, [0, 1], [], [], _, false, [], []⟩, ⟨51, [2], [], [], _, false, [], []⟩, ⟨52, [], [], [], _, false, [], []⟩, ⟨53, [], [], [], _, false, [], []⟩, ⟨54, [4, 5], [], [], _, false, [], []⟩, ⟨55, [6], [], [], _, false, [], []⟩]) [] [0, 9, 6] [⟨48, [], [], false, [], []⟩, ⟨49, [], [], false, [], []⟩, ⟨50, [0, 1], [], false, [], []⟩, ⟨51, [2], [], false, [], []⟩, ⟨52, [], [], false, [], []⟩, ⟨53, [], [], false, [], []⟩, ⟨54, [4, 5], [], false, [], []⟩, ⟨55, [6], [], false, [], []⟩] tMixc (by rfl) (by kernel_rfl) (by rfl) (by rfl)
              ⟨.plain rfl (by intro X; exact op_move rfl),
              ⟨.plain rfl (by intro X; exact op_move rfl),
              ⟨.plain rfl (by intro X; rintro _ _ ⟨rfl, rfl⟩ _ _ ⟨rfl, rfl⟩; exact op_idx rfl rfl tS25c (Sl.ent (by first | exact Sl.app (by assumption) _ | exact Sl.app (Sl.app (by assumption) _) _)) (by omega)),
              ⟨.plain rfl (by intro X; rintro _ _ ⟨rfl, rfl⟩; exact op_ldx rfl tO3c (by first | exact Sl.app (by assumption) _ | exact Sl.app (Sl.app (by assumption) _) _) (by assumption) (by rfl)),
              ⟨.plain rfl (by intro X; exact op_move rfl),
              ⟨.plain rfl (by intro X; exact op_move rfl),
              ⟨.plain rfl (by intro X; rintro _ _ ⟨rfl, rfl⟩ _ _ ⟨rfl, rfl⟩; exact op_idx rfl rfl tS25c (Sl.ent (by first | exact Sl.app (by assumption) _ | exact Sl.app (Sl.app (by assumption) _) _)) (by omega)),
              ⟨.plain rfl (by intro X; rintro _ _ ⟨rfl, rfl⟩; exact op_ldx rfl tO3c (by first | exact Sl.app (by assumption) _ | exact Sl.app (Sl.app (by assumption) _) _) (by assumption) (by rfl)),
              trivial⟩⟩⟩⟩⟩⟩⟩⟩ ?_
          rintro _ _ ⟨rfl, rfl⟩ _ _ ⟨rfl, rfl⟩ _ _ ⟨rfl, rfl⟩ _ _ ⟨rfl, rfl⟩ _ _ ⟨rfl, rfl⟩ _ _ ⟨rfl, rfl⟩ _ _ ⟨rfl, rfl⟩ _ _ ⟨rfl, rfl⟩
          refine wl_norm (e' := [(0, _), (5, _), (6, _), (7, _), (8, _), (9, _), (51, _), (55, _)]) (.cons rfl (.cons rfl (.cons rfl (.cons rfl (.cons rfl (.cons rfl (.cons rfl (.cons rfl (.nil _))))))))) (by dsimp only [cond_false, cond_true, List.nil_append, List.cons_append]) ?_
          refine wl_det rfl rfl rfl (op_leq rfl rfl) ?_
          refine wl_nil ?_
          refine st_tn ?_
          refine w_cond_d rfl (fun hc56 => ?_) (fun hc56 => ?_)
          · -- c56.t
            refine w_region ?_
            refine wl_det rfl rfl rfl (op_move rfl) ?_
            refine wl_det rfl rfl rfl (op_add' rfl rfl (by omega)) ?_
            refine wl_det rfl rfl rfl (op_assign rfl) ?_
            refine wl_nil ?_
            refine st_bn ?_
            refine st_tn ?_
            refine w_region ?_
            refine wl_det rfl rfl rfl (op_move rfl) ?_
            refine wl_det rfl rfl rfl (op_add' rfl rfl (by omega)) ?_
            refine wl_det rfl rfl rfl (op_assign rfl) ?_
            refine wl_nil ?_
            refine st_roundQ (x := (k, less, most)) ((k + 1, less + 1, most + 1)) [3] rfl (rfl) (.cons rfl (.cons rfl (.cons rfl (.nil _)))) (.cons rfl (.cons rfl (.cons rfl (.nil _)))) (by
                try dsimp only
                refine ⟨by omega, ?_, ?_⟩
                · rw [take_snoc hu, List.countP_append, ← hless, List.countP_singleton]; simp [*]
                · rw [take_snoc hu, List.countP_append, ← hmost, List.countP_singleton]; simp [*]) (by
                try dsimp only
                omega) 
          · -- c56.f
            refine w_skip ?_
            refine st_bn ?_
            refine st_tn ?_
            refine w_region ?_
            refine wl_det rfl rfl rfl (op_move rfl) ?_
            refine wl_det rfl rfl rfl (op_add' rfl rfl (by omega)) ?_
            refine wl_det rfl rfl rfl (op_assign rfl) ?_
            refine wl_nil ?_
            refine st_roundQ (x := (k, less, most)) ((k + 1, less + 1, most)) [3] rfl (rfl) (.cons rfl (.cons rfl (.cons rfl (.nil _)))) (.cons rfl (.cons rfl (.cons rfl (.nil _)))) (by
                try dsimp only
                refine ⟨by omega, ?_, ?_⟩
                · rw [take_snoc hu, List.countP_append, ← hless, List.countP_singleton]; simp [*]
                · rw [take_snoc hu, List.countP_append, ← hmost, List.countP_singleton]; simp [*]) (by
                try dsimp only
                omega) 
        · -- c45.f
          refine w_skip ?_
          refine st_tn ?_
          refine w_seq ?_
          refine w_draw (D := [⟨48, [], [], [], _, false, [], []⟩, ⟨49, [], [], [], _, false, [], []⟩, ⟨50, [0, 1], [], [], _, false, [], []⟩, ⟨51, [2], [], [], _, false, [], []⟩, ⟨52, [], [], [], _, false, [], []⟩, ⟨53, [], [], [], _, false, [], []⟩, ⟨54, [4, 5], [], [], _, false, [], []⟩, ⟨55, [6], [], [], _, false, [], []⟩]) [] [0, 9, 6] [⟨48, [], [], false, [], []⟩, ⟨49, [], [], false, [], []⟩, ⟨50, [0, 1], [], false, [], []⟩, ⟨51, [2], [], false, [], []⟩, ⟨52, [], [], false, [], []⟩, ⟨53, [], [], false, [], []⟩, ⟨54, [4, 5], [], false, [], []⟩, ⟨55, [6], [], false, [], []⟩] tMixc (by rfl) (by kernel_rfl) (by rfl) (by rfl)
              ⟨.plain rfl (by intro X; exact op_move rfl),
              ⟨.plain rfl (by intro X; exact op_move rfl),
              ⟨.plain rfl (by intro X; rintro _ _ ⟨rfl, rfl⟩ _ _ ⟨rfl, rfl⟩; exact op_idx rfl rfl tS25c (Sl.ent (by first | exact Sl.app (by assumption) _ | exact Sl.app (Sl.app (by assumption) _) _)) (by omega)),
              ⟨.plain rfl (by intro X; rintro _ _ ⟨rfl, rfl⟩; exact op_ldx rfl tO3c (by first | exact Sl.app (by assumption) _ | exact Sl.app (Sl.app (by assumption) _) _) (by assumption) (by rfl)),
              ⟨.plain rfl (by intro X; exact op_move rfl),
              ⟨.plain rfl (by intro X; exact op_move rfl),
              ⟨.plain rfl (by intro X; rintro _ _ ⟨rfl, rfl⟩ _ _ ⟨rfl, rfl⟩; exact op_idx rfl rfl tS25c (Sl.ent (by first | exact Sl.app (by assumption) _ | exact Sl.app (Sl.app (by assumption) _) _)) (by omega)),
              ⟨.plain rfl (by intro X; rintro _ _ ⟨rfl, rfl⟩; exact op_ldx rfl tO3c (by first | exact Sl.app (by assumption) _ | exact Sl.app (Sl.app (by assumption) _) _) (by assumption) (by rfl)),
              trivial⟩⟩⟩⟩⟩⟩⟩⟩ ?_
          rintro _ _ ⟨rfl, rfl⟩ _ _ ⟨rfl, rfl⟩ _ _ ⟨rfl, rfl⟩ _ _ ⟨rfl, rfl⟩ _ _ ⟨rfl, rfl⟩ _ _ ⟨rfl, rfl⟩ _ _ ⟨rfl, rfl⟩ _ _ ⟨rfl, rfl⟩
          refine wl_norm (e' := [(0, _), (5, _), (6, _), (7, _), (8, _), (9, _), (51, _), (55, _)]) (.cons rfl (.cons rfl (.cons rfl (.cons rfl (.cons rfl (.cons rfl (.cons rfl (.cons rfl (.nil _))))))))) (by dsimp only [cond_false, cond_true, List.nil_append, List.cons_append]) ?_
          refine wl_det rfl rfl rfl (op_leq rfl rfl) ?_
          refine wl_nil ?_
          refine st_tn ?_
          refine w_cond_d rfl (fun hc56 => ?_) (fun hc56 => ?_)
          · -- c56.t
            refine w_region ?_
            refine wl_det rfl rfl rfl (op_move rfl) ?_
            refine wl_det rfl rfl rfl (op_add' rfl rfl (by omega)) ?_
            refine wl_det rfl rfl rfl (op_assign rfl) ?_
            refine wl_nil ?_
            refine st_bn ?_
            refine st_tn ?_
            refine w_region ?_
            refine wl_det rfl rfl rfl (op_move rfl) ?_
            refine wl_det rfl rfl rfl (op_add' rfl rfl (by omega)) ?_
            refine wl_det rfl rfl rfl (op_assign rfl) ?_
            refine wl_nil ?_
            refine st_roundQ (x := (k, less, most)) ((k + 1, less, most + 1)) [3] rfl (rfl) (.cons rfl (.cons rfl (.cons rfl (.nil _)))) (.cons rfl (.cons rfl (.cons rfl (.nil _)))) (by
                try dsimp only
                refine ⟨by omega, ?_, ?_⟩
                · rw [take_snoc hu, List.countP_append, ← hless, List.countP_singleton]; simp [*]
                · rw [take_snoc hu, List.countP_append, ← hmost, List.countP_singleton]; simp [*]) (by
                try dsimp only
                omega) 
          · -- c56.f
            refine w_skip ?_
            refine st_bn ?_
            refine st_tn ?_
            refine w_region ?_
            refine wl_det rfl rfl rfl (op_move rfl) ?_
            refine wl_det rfl rfl rfl (op_add' rfl rfl (by omega)) ?_
            refine wl_det rfl rfl rfl (op_assign rfl) ?_
            refine wl_nil ?_
            refine st_roundQ (x := (k, less, most)) ((k + 1, less, most)) [3] rfl (rfl) (.cons rfl (.cons rfl (.cons rfl (.nil _)))) (.cons rfl (.cons rfl (.cons rfl (.nil _)))) (by
                try dsimp only
                refine ⟨by omega, ?_, ?_⟩
                · rw [take_snoc hu, List.countP_append, ← hless, List.countP_singleton]; simp [*]
                · rw [take_snoc hu, List.countP_append, ← hmost, List.countP_singleton]; simp [*]) (by
                try dsimp only
                omega) 
      · -- c34.f
        have hkl := take_all (l := l) (i := k) (by omega)
        refine w_exit ?_
        refine st_te ?_
        refine st_te ?_
        refine st_be ?_
        refine st_tn ?_
        refine w_seq ?_
        refine w_cutL [(66, .bool (decide ((less : Int) < rankOf l.length x y ∧ rankOf l.length x y ≤ (most : Int))))] [0, 5, 6] [3] rfl (fun K' hK => ?_) ?_
        · -- cut r15
          refine w_region ?_
          refine wl_det rfl rfl rfl (op_move rfl) ?_
          refine wl_det rfl rfl rfl (op_move rfl) ?_
          refine wl_det rfl rfl rfl (op_lss rfl rfl) ?_
          refine wl_det rfl rfl rfl (op_move rfl) ?_
          refine wl_gsplit (t := 62) rfl (fun hg62 => ?_) (fun hg62 => ?_)
          · -- 62 is True
            refine wl_wanted_det rfl rfl rfl rfl rfl rfl rfl (op_move rfl) ?_
            refine wl_wanted_det rfl rfl rfl rfl rfl rfl rfl (op_move rfl) ?_
            refine wl_wanted_det rfl rfl rfl rfl rfl rfl rfl (op_leq rfl rfl) ?_
            refine wl_det rfl rfl rfl (op_pick_t rfl rfl) ?_
            refine wl_nil ?_
            refine st_tn ?_
            exact cut_done1 [3] hK rfl (by first | (rw [decide_eq_decide]; omega) | (symm; rw [decide_eq_false_iff_not]; omega) | (symm; rw [decide_eq_true_iff]; omega) | (simp; done) | (simp; omega) | (simp [*]; done) | (simp [*]; omega)) (by rfl) rfl rfl
          · -- 62 is False
            refine wl_unwanted rfl rfl rfl rfl rfl rfl rfl rfl ?_
            refine wl_unwanted rfl rfl rfl rfl rfl rfl rfl rfl ?_
            refine wl_unwanted rfl rfl rfl rfl rfl rfl rfl rfl ?_
            refine wl_det rfl rfl rfl (op_pick_f rfl rfl) ?_
            refine wl_nil ?_
            refine st_tn ?_
            exact cut_done1 [3] hK rfl (by first | (rw [decide_eq_decide]; omega) | (symm; rw [decide_eq_false_iff_not]; omega) | (symm; rw [decide_eq_true_iff]; omega) | (simp; done) | (simp; omega) | (simp [*]; done) | (simp [*]; omega)) (by rfl) rfl rfl
        · -- behind r15
          show W _ _ _ _ _ [(66, _), (0, _), (5, _), (6, _)] [(3, _)] _
          refine w_cond_d rfl (fun hc66 => ?_) (fun hc66 => ?_)
          · -- c66.t
            refine w_seq ?_
            refine w_region ?_
            refine wl_det rfl rfl rfl (op_move rfl) ?_
            refine wl_det rfl rfl rfl (op_move rfl) ?_
            refine wl_det rfl rfl rfl (op_idx rfl rfl tS25c (Sl.ent (by first | exact Sl.app (by assumption) _ | exact Sl.app (Sl.app (by assumption) _) _)) (by omega)) ?_
            refine wl_det rfl rfl rfl (op_ldx rfl tO3c (by first | exact Sl.app (by assumption) _ | exact Sl.app (Sl.app (by assumption) _) _) (by assumption) (by rfl)) ?_
            refine wl_det rfl rfl rfl (op_assign rfl) ?_
            refine wl_nil ?_
            refine st_tn ?_
            refine w_ret ?_
            refine st_br ?_
            refine st_tr ?_
            refine st_tr ?_
            refine st_br ?_
            refine st_tr ?_
            refine st_ret (vs := [_]) [] Try.results18 ⟨rfl, trivial⟩ rfl ?_
            refine ⟨_, rfl, ?_⟩
            refine ⟨?_, rfl⟩
            rw [hless, hmost, hkl] at hc66
            rw [hq, ← quant_unique hr.1 hz hc66.1 hc66.2]; rfl
          · -- c66.f
            refine w_skip ?_
            refine st_bn ?_
            refine st_tn ?_
            refine w_region ?_
            refine wl_det rfl rfl rfl (op_move rfl) ?_
            refine wl_det rfl rfl rfl (op_add' rfl rfl (by omega)) ?_
            refine wl_det rfl rfl rfl (op_assign rfl) ?_
            refine wl_nil ?_
            refine st_roundQ (x := i) (i + 1) [3] rfl (rfl) (.cons rfl (.nil _)) (.cons rfl (.cons rfl (.nil _))) (by
                try dsimp only
                refine ⟨by omega, fun w hw => ?_⟩
                rw [take_snoc hv] at hw
                rcases List.mem_append.1 hw with hw | hw
                · exact hno w hw
                · simp at hw; subst hw
                  rw [hless, hmost, hkl] at hc66
                  exact hc66) (by
                try dsimp only
                omega) 
    · -- c28.f
      refine w_exit ?_
      refine st_te ?_
      refine st_te ?_
      refine st_be ?_
      refine st_tn ?_
      refine w_seq ?_
      refine w_region ?_
      refine wl_det rfl rfl rfl (op_assign rfl) ?_
      refine wl_nil ?_
      refine st_tn ?_
      refine w_ret ?_
      refine st_ret (vs := [_]) [] Try.results18 ⟨rfl, trivial⟩ rfl ?_
      refine ⟨_, rfl, ?_⟩
      exfalso
      rw [take_all (by omega)] at hno
      obtain ⟨h1, h2⟩ := countP_lt_le (srt_le l) hz
      rw [(srt_perm l).countP_eq] at h1 h2
      exact hno z (mem_srt.1 (List.mem_of_getElem? hz)) ⟨by omega, by omega⟩

end Go.Proofs.Ytbgddblfalahfaa
