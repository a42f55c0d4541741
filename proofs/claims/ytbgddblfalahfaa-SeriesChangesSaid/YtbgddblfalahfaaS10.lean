/- The law SeriesChanges (layer 43). Conditions: none. -/
import Derived.Test.YtbgddblfalahfaaS9
namespace Go.Proofs.Ytbgddblfalahfaa
open Go Go.SL Go.RowKit
set_option linter.unusedVariables false
set_option linter.unusedSimpArgs false
theorem tA46j : aggB Try.prog 46 6 = true := by kernel_rfl
theorem tA48j : aggB Try.prog 48 7 = true := by kernel_rfl
theorem tF48_2j : fieldB Try.prog 48 2 2 = true := by kernel_rfl
theorem tF48_4j : fieldB Try.prog 48 4 5 = true := by kernel_rfl
theorem tF48_5j : fieldB Try.prog 48 5 6 = true := by kernel_rfl
theorem tL25_1j : zerosB Try.prog 25 3 1 1 = some [Value.int .i64 0] := by kernel_rfl
theorem tMixj : Try.prog.follows .mixedOrders = true := by kernel_rfl
theorem tN48j : (Try.prog.info? 48).bind (·.zero) = some (Value.agg #[Value.string .empty, Value.string .empty, Value.int .i64 0, Value.int .i64 0, Value.int .i64 0, Value.int .i64 0, Value.slice none 0 0]) := by kernel_rfl
theorem tO25j : oneB Try.prog 25 = true := by kernel_rfl
theorem tO3j : oneB Try.prog 3 = true := by kernel_rfl
theorem tP25j : appB Try.prog 25 3 1 8 = true := by kernel_rfl
theorem tS25j : sliceB Try.prog 25 3 1 = true := by kernel_rfl
theorem tZ3j : (Try.prog.info? 3).map (·.size) = some 1 := by kernel_rfl
theorem tZ48j : (Try.prog.info? 48).map (·.size) = some 7 := by kernel_rfl

-- CALL sleuth/sleuthlaw43.total total_any _ _ {s0} (by omega) (by assumption)
set_option maxHeartbeats 2000000 in
set_option maxRecDepth 100000 in
theorem lawChanges_any {σ : World} {F : List Res} {a : Option Addr} {c : Nat} {l : List Int} (x0 x1 x2 x3 x4 y sz : Int) (h : Sl σ F encY 1 (.slice a l.length c) l) (hb : ∀ x ∈ l, 0 ≤ x ∧ x ≤ 255) (h0 : 0 ≤ x0 ∧ x0 ≤ 255) (h1 : 0 ≤ x1 ∧ x1 ≤ 255) (h2 : 0 ≤ x2 ∧ x2 ≤ 255) (h3 : 0 ≤ x3 ∧ x3 ≤ 255) (h4 : 0 ≤ x4 ∧ x4 ≤ 255) (hy : -9223372036854775808 ≤ y ∧ y ≤ 9223372036854775807) (hsz : -9223372036854775808 ≤ sz ∧ sz ≤ 9223372036854775807) :
    FnT Try.prog σ F 6 [.agg #[.int .u8 x0, .int .u8 x1, .int .u8 x2, .int .u8 x3, .int .u8 x4, .slice a l.length c], .int .i64 y, .int .i64 sz] [] (fun u ρ => u = .bool true ∧ ρ = []) := by
  refine fn_of 160 Try.func6 rfl Try.ntmps6 rfl ?_
  have hlt : (l.take 30).length ≤ 30 := by rw [List.length_take]; omega
  have hv := u8_take hb 30
  have hv8 : ∀ x ∈ l.take 30, 0 ≤ x ∧ x ≤ 255 := fun x hx => hb x (List.mem_of_mem_take hx)
  have hk := kG_ok x0 x1 x2 x3
  refine w_seq ?_
  refine w_region ?_
  refine wl_op [] rfl rfl rfl rfl (op_box (T := 46) (l := 3) rfl) ?_
  rintro _ _ ⟨b3, rfl, rfl⟩
  refine wl_det rfl rfl rfl (op_assign rfl) ?_
  refine wl_nil ?_
  refine st_tn ?_
  refine w_seq ?_
  refine w_region ?_
  refine wl_det rfl rfl rfl (op_loadA rfl tA46j (Ent.lab (l := 3) rfl (says_cel 0)) (Nat.le_of_ble_eq_true rfl)) ?_
  refine wl_op [] rfl rfl rfl rfl (op_fn Try.func20 rfl rfl rfl (series_any 21 _ _ _ _ _ (by first | exact Sl.app (by assumption) _ | exact Sl.app (Sl.app (by assumption) _) _) (by assumption) (by assumption) (by assumption) (by assumption) (by assumption) (by assumption))) ?_
  rintro _ _ ⟨a21, c21, rfl, rfl⟩
  refine wl_op [] rfl rfl rfl rfl (op_alloc (l := 7) tN48j) ?_
  rintro _ _ ⟨b7, rfl, rfl⟩
  refine wl_op0 [7] rfl rfl rfl (op_store rfl rfl tZ48j (by rfl) (by rfl) (by exact Nat.le_of_ble_eq_true rfl)) ?_
  rintro _ _ ⟨rfl, rfl⟩
  refine wl_nil ?_
  refine st_tn ?_
  refine w_seq ?_
  generalize kG x0 x1 x2 x3 = k at *
  have hfr : 0 ≤ x4 % 40 ∧ x4 % 40 ≤ 1048576 := by omega
  generalize x4 % 40 = fr at *
  generalize l.take 30 = L at *
  have hks := hk.svc
  have hko := hk.op
  have hkq1 := hk.q1
  have hkq2 := hk.q2
  have hkm := hk.met
  have hv100 : (shiftR k fr L y).vals.length ≤ 30 := by unfold shiftR; split <;> simp [zeroR]; omega
  have hv200 : (coarsenR k fr L sz).vals.length ≤ 30 := by
    unfold coarsenR; split
    · simp [zeroR]
    · split
      · simp [zeroR]
      · have := coarse_le (lat := decide (k.met = 3)) (fr := fr) (sz := sz) (l := L) L.length; simp only; omega
  refine w_region ?_
  refine wl_det rfl rfl rfl (op_loadA rfl tA48j (Ent.lab (l := 7) rfl (says_cel 0)) (Nat.le_of_ble_eq_true rfl)) ?_
  refine wl_det rfl rfl rfl (op_move rfl) ?_
  refine wl_op [] rfl rfl rfl rfl (op_fn Try.func23 rfl rfl rfl (shift_any 25 _ _ _ (Sl.lab 21 rfl (by first | (simp [maxLen]; done) | (unfold maxLen; omega))) (by omega) (by omega))) ?_
  rintro _ _ ⟨a25, c25, rfl, rfl⟩
  refine wl_det rfl rfl rfl (op_move rfl) ?_
  refine wl_det rfl rfl rfl (op_extract rfl rfl) ?_
  refine wl_det rfl rfl rfl (op_extract rfl rfl) ?_
  refine wl_op [] rfl rfl rfl rfl (op_alloc (l := 8) tN48j) ?_
  rintro _ _ ⟨b8, rfl, rfl⟩
  refine wl_op0 [8] rfl rfl rfl (op_store rfl rfl tZ48j (by rfl) (by rfl) (by exact Nat.le_of_ble_eq_true rfl)) ?_
  rintro _ _ ⟨rfl, rfl⟩
  refine wl_det rfl rfl rfl (op_assign rfl) ?_
  refine wl_nil ?_
  refine st_tn ?_
  refine w_seq ?_
  refine w_region ?_
  refine wl_det rfl rfl rfl (op_loadA rfl tA48j (Ent.lab (l := 7) rfl (says_cel 0)) (Nat.le_of_ble_eq_true rfl)) ?_
  refine wl_det rfl rfl rfl (op_move rfl) ?_
  refine wl_op [] rfl rfl rfl rfl (op_fn Try.func24 rfl rfl rfl (coarsen_any 31 _ _ _ (Sl.lab 21 rfl (by first | (simp [maxLen]; done) | (unfold maxLen; omega))) (by omega) (by omega) (by assumption))) ?_
  rintro _ _ ⟨a31, c31, rfl, rfl⟩
  refine wl_det rfl rfl rfl (op_move rfl) ?_
  refine wl_det rfl rfl rfl (op_extract rfl rfl) ?_
  refine wl_det rfl rfl rfl (op_extract rfl rfl) ?_
  refine wl_op [] rfl rfl rfl rfl (op_alloc (l := 10) tN48j) ?_
  rintro _ _ ⟨b10, rfl, rfl⟩
  refine wl_op0 [10] rfl rfl rfl (op_store rfl rfl tZ48j (by rfl) (by rfl) (by exact Nat.le_of_ble_eq_true rfl)) ?_
  rintro _ _ ⟨rfl, rfl⟩
  refine wl_det rfl rfl rfl (op_assign rfl) ?_
  refine wl_nil ?_
  refine st_tn ?_
  refine w_seq ?_
  refine w_region ?_
  refine wl_det rfl rfl rfl (op_loadA rfl tA48j (Ent.lab (l := 7) rfl (says_cel 0)) (Nat.le_of_ble_eq_true rfl)) ?_
  refine wl_det rfl rfl rfl (op_move rfl) ?_
  refine wl_op [] rfl rfl rfl rfl (op_fn Try.func25 rfl rfl rfl (moving_any 37 _ _ _ (Sl.lab 21 rfl (by first | (simp [maxLen]; done) | (unfold maxLen; omega))) (by omega) (by assumption))) ?_
  rintro _ _ ⟨m37, a37, c37, hm37, rfl, rfl⟩
  refine wl_det rfl rfl rfl (op_move rfl) ?_
  refine wl_det rfl rfl rfl (op_extract rfl rfl) ?_
  refine wl_det rfl rfl rfl (op_extract rfl rfl) ?_
  refine wl_det rfl rfl rfl (op_assign rfl) ?_
  refine wl_det rfl rfl rfl (op_assign rfl) ?_
  refine wl_nil ?_
  refine st_tn ?_
  refine w_seq ?_
  refine w_seq ?_
  have hml : m37.length ≤ 30 := by
    rw [hm37]; split
    · simp [movL]; omega
    · simp
  refine w_region ?_
  refine wl_det rfl rfl rfl (op_fn Try.func16 rfl rfl rfl (known_any)) ?_
  refine wl_det rfl rfl rfl (op_not_t rfl) ?_
  refine wl_nil ?_
  refine st_tn ?_
  refine w_cond_f (rfl) ?_
  refine w_skip ?_
  refine st_tn ?_
  refine w_seq ?_
  refine w_region ?_
  refine wl_det rfl rfl rfl (op_loadA rfl tA48j (Ent.lab (l := 7) rfl (says_cel 0)) (Nat.le_of_ble_eq_true rfl)) ?_
  refine wl_op [] rfl rfl rfl rfl (op_alloc (l := 14) tN48j) ?_
  rintro _ _ ⟨b14, rfl, rfl⟩
  refine wl_op0 [14] rfl rfl rfl (op_store rfl rfl tZ48j (by rfl) (by rfl) (by exact Nat.le_of_ble_eq_true rfl)) ?_
  rintro _ _ ⟨rfl, rfl⟩
  refine wl_nil ?_
  refine st_tn ?_
  refine w_seq ?_
  refine w_cutL [(15, .bool (decide (y ≥ 0 - fr ∧ y ≤ 1048576)))] [1, 2, 7, 8, 9, 10, 11, 12, 13, 14] [3, 21, 7, 25, 8, 31, 10, 37, 14] rfl (fun K' hK => ?_) ?_
  · -- cut r8
    refine w_region ?_
    refine wl_det rfl rfl rfl (op_move rfl) ?_
    refine wl_det rfl rfl rfl (op_fieldAddr (off := 5) rfl tF48_4j) ?_
    refine wl_det rfl rfl rfl (op_load1 rfl tO3j (Ent.lab (l := 7) rfl (says_cel 5))) ?_
    refine wl_det rfl rfl rfl (op_sub' rfl rfl (by omega)) ?_
    refine wl_det rfl rfl rfl (op_geq rfl rfl) ?_
    refine wl_det rfl rfl rfl (op_move rfl) ?_
    refine wl_gsplit (t := 48) rfl (fun hg48 => ?_) (fun hg48 => ?_)
    · -- 48 is True
      refine wl_wanted_det rfl rfl rfl rfl rfl rfl rfl (op_move rfl) ?_
      refine wl_wanted_det rfl rfl rfl rfl rfl rfl rfl (op_leq rfl rfl) ?_
      refine wl_det rfl rfl rfl (op_pick_t rfl rfl) ?_
      refine wl_det rfl rfl rfl (op_assign rfl) ?_
      refine wl_nil ?_
      refine st_tn ?_
      exact cut_done1 [3, 21, 7, 25, 8, 31, 10, 37, 14] hK rfl (by first | (rw [decide_eq_decide]; omega) | (symm; rw [decide_eq_false_iff_not]; omega) | (symm; rw [decide_eq_true_iff]; omega) | (simp; done) | (simp; omega) | (simp [*]; done) | (simp [*]; omega)) (by rfl) rfl rfl
    · -- 48 is False
      refine wl_unwanted rfl rfl rfl rfl rfl rfl rfl rfl ?_
      refine wl_unwanted rfl rfl rfl rfl rfl rfl rfl rfl ?_
      refine wl_det rfl rfl rfl (op_pick_f rfl rfl) ?_
      refine wl_det rfl rfl rfl (op_assign rfl) ?_
      refine wl_nil ?_
      refine st_tn ?_
      exact cut_done1 [3, 21, 7, 25, 8, 31, 10, 37, 14] hK rfl (by first | (rw [decide_eq_decide]; omega) | (symm; rw [decide_eq_false_iff_not]; omega) | (symm; rw [decide_eq_true_iff]; omega) | (simp; done) | (simp; omega) | (simp [*]; done) | (simp [*]; omega)) (by rfl) rfl rfl
  · -- behind r8
    show W _ _ _ _ _ [(15, _), (1, _), (2, _), (7, _), (8, _), (9, _), (10, _), (11, _), (12, _), (13, _), (14, _)] [(3, _), (21, _), (7, _), (25, _), (8, _), (31, _), (10, _), (37, _), (14, _)] _
    refine w_seq ?_
    refine w_seq ?_
    refine w_region ?_
    refine wl_det rfl rfl rfl (op_move rfl) ?_
    refine wl_nil ?_
    refine st_tn ?_
    refine w_cond_d rfl (fun hc52 => ?_) (fun hc52 => ?_)
    · -- c52.t
      refine w_seq ?_
      refine w_region ?_
      refine wl_det rfl rfl rfl (op_fieldAddr (off := 5) rfl tF48_4j) ?_
      refine wl_det rfl rfl rfl (op_load1 rfl tO3j (Ent.lab (l := 7) rfl (says_cel 5))) ?_
      refine wl_det rfl rfl rfl (op_move rfl) ?_
      refine wl_det rfl rfl rfl (op_add' rfl rfl (by omega)) ?_
      refine wl_det rfl rfl rfl (op_fieldAddr (off := 5) rfl tF48_4j) ?_
      refine wl_op0 [14] rfl rfl rfl (op_store rfl rfl tZ3j (by rfl) (by rfl) (by exact Nat.le_of_ble_eq_true rfl)) ?_
      rintro _ _ ⟨rfl, rfl⟩
      refine wl_nil ?_
      refine st_tn ?_
      refine w_region ?_
      refine wl_det rfl rfl rfl (op_loadA rfl tA48j (Ent.lab (l := 14) rfl (says_cel 0)) (Nat.le_of_ble_eq_true rfl)) ?_
      refine wl_det rfl rfl rfl (op_fn Try.func26 rfl rfl rfl (lcheck_any _ _ (Sl.lab 21 rfl (by first | (simp [maxLen]; done) | (unfold maxLen; omega))) (by assumption) (by assumption) (by omega) (by omega))) ?_
      refine wl_det rfl rfl rfl (op_eql rfl rfl) ?_
      refine wl_det rfl rfl rfl (op_assign rfl) ?_
      refine wl_nil ?_
      refine st_tn ?_
      refine w_seq ?_
      refine w_seq ?_
      refine w_cutL [(81, .bool false)] [2, 7, 10, 11, 12, 13] [3, 21, 7, 25, 8, 31, 10, 37, 14] rfl (fun K' hK => ?_) ?_
      · -- cut r12
        by_cases hfit : chkE k (fr + y) L = 0 ∧ (y ≥ 0 - fr ∧ y ≤ 1048576)
        · -- hfit+
          have hS := shift_fit hk (by omega) hv hfr hfit.2 hfit.1
          refine w_region ?_
          refine wl_det rfl rfl rfl (op_val (v' := .bool true) (by exact congrArg Value.bool (decide_eq_true hfit.1)) (op_move rfl)) ?_
          refine wl_det rfl rfl rfl (op_move rfl) ?_
          refine wl_det rfl rfl rfl (op_val (v' := .bool true) (by rw [hS]; rfl) (op_eql rfl rfl)) ?_
          refine wl_det rfl rfl rfl (op_val (v' := .bool false) (by rfl) (op_neB rfl rfl Try.underlying4)) ?_
          refine wl_det rfl rfl rfl (op_move rfl) ?_
          refine wl_wanted_det rfl rfl rfl rfl rfl rfl rfl (op_val (v' := .bool true) (by exact congrArg Value.bool (decide_eq_true hfit.1)) (op_move rfl)) ?_
          refine wl_wanted_det rfl rfl rfl rfl rfl rfl rfl (op_not_t rfl) ?_
          refine wl_wanted_det rfl rfl rfl rfl rfl rfl rfl (op_move rfl) ?_
          refine wl_unwanted rfl rfl rfl rfl rfl rfl rfl rfl ?_
          refine wl_unwanted rfl rfl rfl rfl rfl rfl rfl rfl ?_
          refine wl_wanted_det rfl rfl rfl rfl rfl rfl rfl (op_pick_f rfl rfl) ?_
          refine wl_det rfl rfl rfl (op_pick_f rfl rfl) ?_
          refine wl_det rfl rfl rfl (op_move rfl) ?_
          refine wl_wanted_det rfl rfl rfl rfl rfl rfl rfl (op_val (v' := .bool true) (by exact congrArg Value.bool (decide_eq_true hfit.1)) (op_move rfl)) ?_
          refine wl_wanted_det rfl rfl rfl rfl rfl rfl rfl (op_move rfl) ?_
          refine wl_wanted_det rfl rfl rfl rfl rfl rfl rfl (op_loadA rfl tA48j (Ent.lab (l := 8) rfl (says_cel 0)) (Nat.le_of_ble_eq_true rfl)) ?_
          refine wl_wanted_det rfl rfl rfl rfl rfl rfl rfl (op_loadA rfl tA48j (Ent.lab (l := 14) rfl (says_cel 0)) (Nat.le_of_ble_eq_true rfl)) ?_
          refine wl_wanted_det rfl rfl rfl rfl rfl rfl rfl (op_val (v' := .bool true) (by 
                refine congrArg Value.bool (decide_eq_true ?_)
                rw [hS]; exact ⟨sameK_eq.2 rfl, rfl, rfl⟩) (op_fn Try.func27 rfl rfl rfl (lsame_any _ _ _ _ (Sl.lab 25 rfl (by first | (simp [maxLen]; done) | (unfold maxLen; omega))) (Sl.lab 21 rfl (by first | (simp [maxLen]; done) | (unfold maxLen; omega)))))) ?_
          refine wl_wanted_det rfl rfl rfl rfl rfl rfl rfl (op_not_t rfl) ?_
          refine wl_wanted_det rfl rfl rfl rfl rfl rfl rfl (op_pick_t rfl rfl) ?_
          refine wl_det rfl rfl rfl (op_pick_f rfl rfl) ?_
          refine wl_nil ?_
          refine st_tn ?_
          exact cut_done (L' := [3, 21, 7, 25, 8, 31, 10, 37, 14]) hK (by intro q hq; simp only [List.mem_cons, List.not_mem_nil, or_false] at hq; subst hq; all_goals first | rfl | (show some _ = some _; simp [*]; done)) (by rfl) rfl rfl
        · -- hfit-
          have hS : shiftR k fr L y = zeroR 32 := by
            by_cases hq : y ≥ 0 - fr ∧ y ≤ 1048576
            · exact shift_no2 hk (by omega) hv (fun e => hfit ⟨e, hq⟩)
            · exact shift_no1 hfr hq
          refine w_region ?_
          refine wl_det rfl rfl rfl (op_val (v' := .bool false) (by first | exact congrArg Value.bool (decide_eq_false hc52) | exact congrArg Value.bool (decide_eq_false fun e => hfit ⟨e, hc52⟩)) (op_move rfl)) ?_
          refine wl_det rfl rfl rfl (op_move rfl) ?_
          refine wl_det rfl rfl rfl (op_val (v' := .bool false) (by rw [hS]; rfl) (op_eql rfl rfl)) ?_
          refine wl_det rfl rfl rfl (op_val (v' := .bool false) (by rfl) (op_neB rfl rfl Try.underlying4)) ?_
          refine wl_det rfl rfl rfl (op_move rfl) ?_
          refine wl_wanted_det rfl rfl rfl rfl rfl rfl rfl (op_val (v' := .bool false) (by first | exact congrArg Value.bool (decide_eq_false hc52) | exact congrArg Value.bool (decide_eq_false fun e => hfit ⟨e, hc52⟩)) (op_move rfl)) ?_
          refine wl_wanted_det rfl rfl rfl rfl rfl rfl rfl (op_not_f rfl) ?_
          refine wl_wanted_det rfl rfl rfl rfl rfl rfl rfl (op_move rfl) ?_
          refine wl_wanted_det rfl rfl rfl rfl rfl rfl rfl (op_move rfl) ?_
          refine wl_wanted_det rfl rfl rfl rfl rfl rfl rfl (op_val (v' := .bool false) (by rw [hS]; rfl) (op_neq rfl rfl)) ?_
          refine wl_wanted_det rfl rfl rfl rfl rfl rfl rfl (op_pick_t rfl rfl) ?_
          refine wl_det rfl rfl rfl (op_pick_f rfl rfl) ?_
          refine wl_det rfl rfl rfl (op_move rfl) ?_
          refine wl_wanted_det rfl rfl rfl rfl rfl rfl rfl (op_val (v' := .bool false) (by first | exact congrArg Value.bool (decide_eq_false hc52) | exact congrArg Value.bool (decide_eq_false fun e => hfit ⟨e, hc52⟩)) (op_move rfl)) ?_
          refine wl_wanted_det rfl rfl rfl rfl rfl rfl rfl (op_move rfl) ?_
          refine wl_unwanted rfl rfl rfl rfl rfl rfl rfl rfl ?_
          refine wl_unwanted rfl rfl rfl rfl rfl rfl rfl rfl ?_
          refine wl_unwanted rfl rfl rfl rfl rfl rfl rfl rfl ?_
          refine wl_unwanted rfl rfl rfl rfl rfl rfl rfl rfl ?_
          refine wl_wanted_det rfl rfl rfl rfl rfl rfl rfl (op_pick_f rfl rfl) ?_
          refine wl_det rfl rfl rfl (op_pick_f rfl rfl) ?_
          refine wl_nil ?_
          refine st_tn ?_
          exact cut_done (L' := [3, 21, 7, 25, 8, 31, 10, 37, 14]) hK (by intro q hq; simp only [List.mem_cons, List.not_mem_nil, or_false] at hq; subst hq; all_goals first | rfl | (show some _ = some _; simp [*]; done)) (by rfl) rfl rfl
      · -- behind r12
        show W _ _ _ _ _ [(81, _), (2, _), (7, _), (10, _), (11, _), (12, _), (13, _)] [(3, _), (21, _), (7, _), (25, _), (8, _), (31, _), (10, _), (37, _), (14, _)] _
        refine w_cond_f (rfl) ?_
        refine w_skip ?_
        refine st_tn ?_
        refine w_seq ?_
        refine w_seq ?_
        refine w_cutL [(87, .bool (decide (sz < 1 ∨ sz > 1048576)))] [2, 7, 10, 11, 12, 13] [3, 21, 7, 25, 8, 31, 10, 37, 14] rfl (fun K' hK => ?_) ?_
        · -- cut r14
          refine w_region ?_
          refine wl_det rfl rfl rfl (op_move rfl) ?_
          refine wl_det rfl rfl rfl (op_lss rfl rfl) ?_
          refine wl_det rfl rfl rfl (op_move rfl) ?_
          refine wl_gsplit (t := 84) rfl (fun hg84 => ?_) (fun hg84 => ?_)
          · -- 84 is True
            refine wl_unwanted rfl rfl rfl rfl rfl rfl rfl rfl ?_
            refine wl_unwanted rfl rfl rfl rfl rfl rfl rfl rfl ?_
            refine wl_det rfl rfl rfl (op_pick_t rfl rfl) ?_
            refine wl_nil ?_
            refine st_tn ?_
            exact cut_done1 [3, 21, 7, 25, 8, 31, 10, 37, 14] hK rfl (by first | (rw [decide_eq_decide]; omega) | (symm; rw [decide_eq_false_iff_not]; omega) | (symm; rw [decide_eq_true_iff]; omega) | (simp; done) | (simp; omega) | (simp [*]; done) | (simp [*]; omega)) (by rfl) rfl rfl
          · -- 84 is False
            refine wl_wanted_det rfl rfl rfl rfl rfl rfl rfl (op_move rfl) ?_
            refine wl_wanted_det rfl rfl rfl rfl rfl rfl rfl (op_gtr rfl rfl) ?_
            refine wl_det rfl rfl rfl (op_pick_f rfl rfl) ?_
            refine wl_nil ?_
            refine st_tn ?_
            exact cut_done1 [3, 21, 7, 25, 8, 31, 10, 37, 14] hK rfl (by first | (rw [decide_eq_decide]; omega) | (symm; rw [decide_eq_false_iff_not]; omega) | (symm; rw [decide_eq_true_iff]; omega) | (simp; done) | (simp; omega) | (simp [*]; done) | (simp [*]; omega)) (by rfl) rfl rfl
        · -- behind r14
          show W _ _ _ _ _ [(87, _), (2, _), (7, _), (10, _), (11, _), (12, _), (13, _)] [(3, _), (21, _), (7, _), (25, _), (8, _), (31, _), (10, _), (37, _), (14, _)] _
          refine w_cond_d rfl (fun hc87 => ?_) (fun hc87 => ?_)
          · -- c87.t
            have hC : coarsenR k fr L sz = zeroR 2 := by unfold coarsenR; rw [if_pos hc87]
            refine w_seq ?_
            refine w_region ?_
            refine wl_det rfl rfl rfl (op_move rfl) ?_
            refine wl_det rfl rfl rfl (op_val (v' := .bool false) (by rw [hC]; rfl) (op_neq rfl rfl)) ?_
            refine wl_nil ?_
            refine st_tn ?_
            refine w_cond_f (rfl) ?_
            refine w_skip ?_
            refine st_tn ?_
            refine w_seq ?_
            refine w_seq ?_
            refine w_cutL [(117, .bool (decide (sz < 1 ∨ sz > 1024)))] [2, 7, 12, 13] [3, 21, 7, 25, 8, 31, 10, 37, 14] rfl (fun K' hK => ?_) ?_
            · -- cut r19
              refine w_region ?_
              refine wl_det rfl rfl rfl (op_move rfl) ?_
              refine wl_det rfl rfl rfl (op_lss rfl rfl) ?_
              refine wl_det rfl rfl rfl (op_move rfl) ?_
              refine wl_gsplit (t := 114) rfl (fun hg114 => ?_) (fun hg114 => ?_)
              · -- 114 is True
                refine wl_unwanted rfl rfl rfl rfl rfl rfl rfl rfl ?_
                refine wl_unwanted rfl rfl rfl rfl rfl rfl rfl rfl ?_
                refine wl_det rfl rfl rfl (op_pick_t rfl rfl) ?_
                refine wl_nil ?_
                refine st_tn ?_
                exact cut_done1 [3, 21, 7, 25, 8, 31, 10, 37, 14] hK rfl (by first | (rw [decide_eq_decide]; omega) | (symm; rw [decide_eq_false_iff_not]; omega) | (symm; rw [decide_eq_true_iff]; omega) | (simp; done) | (simp; omega) | (simp [*]; done) | (simp [*]; omega)) (by rfl) rfl rfl
              · -- 114 is False
                refine wl_wanted_det rfl rfl rfl rfl rfl rfl rfl (op_move rfl) ?_
                refine wl_wanted_det rfl rfl rfl rfl rfl rfl rfl (op_gtr rfl rfl) ?_
                refine wl_det rfl rfl rfl (op_pick_f rfl rfl) ?_
                refine wl_nil ?_
                refine st_tn ?_
                exact cut_done1 [3, 21, 7, 25, 8, 31, 10, 37, 14] hK rfl (by first | (rw [decide_eq_decide]; omega) | (symm; rw [decide_eq_false_iff_not]; omega) | (symm; rw [decide_eq_true_iff]; omega) | (simp; done) | (simp; omega) | (simp [*]; done) | (simp [*]; omega)) (by rfl) rfl rfl
            · -- behind r19
              show W _ _ _ _ _ [(117, _), (2, _), (7, _), (12, _), (13, _)] [(3, _), (21, _), (7, _), (25, _), (8, _), (31, _), (10, _), (37, _), (14, _)] _
              refine w_cond_d rfl (fun hc117 => ?_) (fun hc117 => ?_)
              · -- c117.t
                have hM : movE k sz = 2 := by unfold movE; rw [if_pos hc117]
                refine w_seq ?_
                refine w_region ?_
                refine wl_det rfl rfl rfl (op_move rfl) ?_
                refine wl_det rfl rfl rfl (op_val (v' := .bool true) (by rw [hM]; rfl) (op_eql rfl rfl)) ?_
                refine wl_det rfl rfl rfl (op_assign rfl) ?_
                refine wl_nil ?_
                refine st_tn ?_
                refine w_ret ?_
                refine st_tr ?_
                refine st_ret (vs := [_]) [] Try.results6 ⟨rfl, trivial⟩ rfl ?_
                refine ⟨_, rfl, ?_⟩
                exact ⟨rfl, rfl⟩
              · -- c117.f
                refine w_skip ?_
                refine st_tn ?_
                refine w_seq ?_
                refine w_seq ?_
                refine w_region ?_
                refine wl_det rfl rfl rfl (op_fieldAddr (off := 2) rfl tF48_2j) ?_
                refine wl_det rfl rfl rfl (op_load1 rfl tO3j (Ent.lab (l := 7) rfl (says_cel 2))) ?_
                refine wl_det rfl rfl rfl (op_eql rfl rfl) ?_
                refine wl_nil ?_
                refine st_tn ?_
                refine w_cond_d rfl (fun hc122 => ?_) (fun hc122 => ?_)
                · -- c122.t
                  have hM : movE k sz = 12 := by unfold movE; rw [if_neg hc117, if_pos hc122]
                  refine w_seq ?_
                  refine w_region ?_
                  refine wl_det rfl rfl rfl (op_move rfl) ?_
                  refine wl_det rfl rfl rfl (op_val (v' := .bool true) (by rw [hM]; rfl) (op_eql rfl rfl)) ?_
                  refine wl_det rfl rfl rfl (op_assign rfl) ?_
                  refine wl_nil ?_
                  refine st_tn ?_
                  refine w_ret ?_
                  refine st_tr ?_
                  refine st_ret (vs := [_]) [] Try.results6 ⟨rfl, trivial⟩ rfl ?_
                  refine ⟨_, rfl, ?_⟩
                  exact ⟨rfl, rfl⟩
                · -- c122.f
                  have hM : movE k sz = 0 := by unfold movE; rw [if_neg hc117, if_neg hc122]
                  obtain ⟨w, rfl⟩ := Int.eq_ofNat_of_zero_le (show 0 ≤ sz by omega)
                  refine w_skip ?_
                  refine st_tn ?_
                  refine w_seq ?_
                  refine w_region ?_
                  refine wl_det rfl rfl rfl (op_assign rfl) ?_
                  refine wl_nil ?_
                  refine st_tn ?_
                  refine w_seq ?_
                  refine w_seq ?_
                  refine w_region ?_
                  refine wl_det rfl rfl rfl (op_assign rfl) ?_
                  refine wl_nil ?_
                  refine st_tn ?_
                  refine w_block ?_
                  refine w_emp 16 (slO_nil 3 1) ?_
                  refine w_loopQ (X := List Int × Option Addr × Nat × Nat) (fun z => z.2.2.2 ≤ L.length ∧ z.1 = movL L w z.2.2.2) (fun z => [(16, .slice (z.2.1) (z.1).length (z.2.2.1)), (17, .int .i64 (z.2.2.2))]) (fun z => [(16, slW 3 encZ 1 (.slice (z.2.1) (z.1).length (z.2.2.1)) (z.1))]) (fun z => L.length - z.2.2.2) (([], none, 0, 0)) [(2, _), (7, _), (12, _), (13, _)] [(3, _), (21, _), (7, _), (25, _), (8, _), (31, _), (10, _), (37, _), (14, _)] [16, 3, 21, 7, 25, 8, 31, 10, 37, 14] rfl (rfl) (.cons rfl (.cons rfl (.nil _))) (.cons rfl (.cons rfl (.cons rfl (.cons rfl (.nil _))))) (by
                      try dsimp only
                      exact ⟨Nat.zero_le _, rfl⟩) ?_
                  rintro ⟨want, a_want, c_want, i⟩ ⟨hi, hw⟩
                  refine w_norm2 (by dsimp only [List.cons_append, List.nil_append]) (by dsimp only [List.cons_append, List.nil_append]) ?_
                  try dsimp only at hi hw ⊢
                  refine w_seq ?_
                  refine w_seq ?_
                  refine w_region ?_
                  refine wl_det rfl rfl rfl (op_move rfl) ?_
                  refine wl_det rfl rfl rfl (op_fieldAddr (off := 6) rfl tF48_5j) ?_
                  refine wl_det rfl rfl rfl (op_load1 rfl tO25j (Ent.lab (l := 7) rfl (says_cel 6))) ?_
                  refine wl_det rfl rfl rfl (op_lenT rfl tS25j (Sl.ent (Sl.lab 21 rfl (by first | (simp [maxLen]; done) | (unfold maxLen; omega))))) ?_
                  refine wl_det rfl rfl rfl (op_lss rfl rfl) ?_
                  refine wl_nil ?_
                  refine st_tn ?_
                  refine w_cond_d rfl (fun hc129 => ?_) (fun hc129 => ?_)
                  · -- c129.t
                    obtain ⟨x, hx⟩ := getE (l := L) (i := i) (by omega)
                    have hwl : want.length = i := by rw [hw]; simp [movL]
                    refine w_skip ?_
                    refine st_tn ?_
                    refine w_seq ?_
                    refine w_block ?_
                    refine w_seq ?_
                    refine w_region ?_
                    refine wl_det rfl rfl rfl (op_assign rfl) ?_
                    refine wl_nil ?_
                    refine st_tn ?_
                    refine w_seq ?_
                    refine w_seq ?_
                    refine w_region ?_
                    refine wl_det rfl rfl rfl (op_move rfl) ?_
                    refine wl_det rfl rfl rfl (op_move rfl) ?_
                    refine wl_det rfl rfl rfl (op_sub' rfl rfl (by omega)) ?_
                    refine wl_det rfl rfl rfl (op_add' rfl rfl (by omega)) ?_
                    refine wl_det rfl rfl rfl (op_val (v' := .int .i64 ((i + 1 - w : Nat) : Int)) (by congr 1; omega) (op_max rfl rfl)) ?_
                    refine wl_det rfl rfl rfl (op_assign rfl) ?_
                    refine wl_nil ?_
                    refine st_tn ?_
                    refine w_block ?_
                    refine w_loopQ (X := Int × Nat) (fun z => (i + 1 - w ≤ z.2 ∧ z.2 ≤ i + 1) ∧ z.1 = ((L.take z.2).drop (i + 1 - w)).sum ∧ 0 ≤ z.1 ∧ z.1 ≤ z.2 * 255) (fun z => [(18, .int .i64 (z.1)), (19, .int .i64 (z.2))]) (fun _ => []) (fun z => i + 1 - z.2) ((_, i + 1 - w)) [(2, _), (7, _), (12, _), (13, _), (16, _), (17, _)] [(16, _), (3, _), (21, _), (7, _), (25, _), (8, _), (31, _), (10, _), (37, _), (14, _)] [16, 3, 21, 7, 25, 8, 31, 10, 37, 14] rfl (rfl) (.cons rfl (.cons rfl (.nil _))) (.cons rfl (.cons rfl (.cons rfl (.cons rfl (.cons rfl (.cons rfl (.nil _))))))) (by
                        try dsimp only
                        refine ⟨⟨Nat.le_refl _, by omega⟩, ?_, by omega, by omega⟩
                        rw [List.drop_of_length_le (by rw [List.length_take]; omega)]; rfl) ?_
                    rintro ⟨n, j⟩ ⟨⟨hj0, hj1⟩, hn, hn0, hn1⟩
                    refine w_norm2 (by dsimp only [List.cons_append, List.nil_append]) (by dsimp only [List.cons_append, List.nil_append]) ?_
                    try dsimp only at hj0 hj1 hn hn0 hn1 ⊢
                    refine w_seq ?_
                    refine w_seq ?_
                    refine w_region ?_
                    refine wl_det rfl rfl rfl (op_move rfl) ?_
                    refine wl_det rfl rfl rfl (op_move rfl) ?_
                    refine wl_det rfl rfl rfl (op_leq rfl rfl) ?_
                    refine wl_nil ?_
                    refine st_tn ?_
                    refine w_cond_d rfl (fun hc139 => ?_) (fun hc139 => ?_)
                    · -- c139.t
                      obtain ⟨z, hz⟩ := getE (l := L) (i := j) (by omega)
                      have hzb := hv8 z (List.mem_of_getElem? hz)
                      refine w_skip ?_
                      refine st_tn ?_
                      refine w_seq ?_
                      refine w_block ?_
                      refine w_region ?_
                      refine wl_det rfl rfl rfl (op_move rfl) ?_
                      refine wl_det rfl rfl rfl (op_fieldAddr (off := 6) rfl tF48_5j) ?_
                      refine wl_det rfl rfl rfl (op_load1 rfl tO25j (Ent.lab (l := 7) rfl (says_cel 6))) ?_
                      refine wl_det rfl rfl rfl (op_move rfl) ?_
                      refine wl_det rfl rfl rfl (op_idx rfl rfl tS25j (Sl.ent (Sl.lab 21 rfl (by first | (simp [maxLen]; done) | (unfold maxLen; omega)))) (by omega)) ?_
                      refine wl_det rfl rfl rfl (op_ldx rfl tO3j (Sl.lab 21 rfl (by first | (simp [maxLen]; done) | (unfold maxLen; omega))) (by assumption) (by rfl)) ?_
                      refine wl_det rfl rfl rfl (op_add' rfl rfl (by omega)) ?_
                      refine wl_det rfl rfl rfl (op_assign rfl) ?_
                      refine wl_nil ?_
                      refine st_bn ?_
                      refine st_tn ?_
                      refine w_region ?_
                      refine wl_det rfl rfl rfl (op_move rfl) ?_
                      refine wl_det rfl rfl rfl (op_add' rfl rfl (by omega)) ?_
                      refine wl_det rfl rfl rfl (op_assign rfl) ?_
                      refine wl_nil ?_
                      refine st_roundQ (x := (n, j)) ((_, j + 1)) [16, 3, 21, 7, 25, 8, 31, 10, 37, 14] rfl (rfl) (.cons rfl (.cons rfl (.nil _))) (.cons rfl (.cons rfl (.cons rfl (.cons rfl (.cons rfl (.cons rfl (.nil _))))))) (by
                          try dsimp only
                          refine ⟨⟨by omega, by omega⟩, ?_, by omega, by omega⟩
                          rw [take_snoc hz, List.drop_append_of_le_length (by rw [List.length_take]; omega), List.sum_append, ← hn]; simp) (by
                          try dsimp only
                          omega) 
                    · -- c139.f
                      obtain rfl : j = i + 1 := by omega
                      have hnew : want ++ [n] = movL L w (i + 1) := by
                        rw [movL_succ, ← hw, mov_wsum (by omega) _ (by omega), hn]; rfl
                      refine w_exit ?_
                      refine st_te ?_
                      refine st_te ?_
                      refine st_be ?_
                      refine st_tn ?_
                      refine w_region ?_
                      refine wl_det rfl rfl rfl (op_move rfl) ?_
                      refine wl_det rfl rfl rfl (op_move rfl) ?_
                      refine wl_op [] rfl rfl rfl rfl (op_buildSlice (enc := encZ) (l := [_]) (lab := 151) tL25_1j rfl rfl (fun _ => rfl) rfl) ?_
                      rintro _ _ ⟨a151, c151, rfl, rfl⟩
                      refine wl_op [16] rfl rfl rfl rfl (op_append (lab := 16) (lab' := 152) rfl rfl tP25j enc1Z (Sl.lab 151 rfl (by simp [maxLen])) (by first | omega | (simp; done) | (simp; omega) | (simp [*]; omega)) (by first | omega | (simp; done) | (simp; omega) | (simp [*]; omega))) ?_
                      rintro _ _ ⟨a152, c152, rfl, rfl⟩
                      refine wl_det rfl rfl rfl (op_assign rfl) ?_
                      refine wl_nil ?_
                      refine st_bn ?_
                      refine st_tn ?_
                      refine w_region ?_
                      refine wl_det rfl rfl rfl (op_move rfl) ?_
                      refine wl_det rfl rfl rfl (op_add' rfl rfl (by omega)) ?_
                      refine wl_det rfl rfl rfl (op_assign rfl) ?_
                      refine wl_nil ?_
                      refine st_roundQ (x := (want, a_want, c_want, i)) ((_, _, _, i + 1)) [152, 3, 21, 7, 25, 8, 31, 10, 37, 14] rfl (rfl) (.cons rfl (.cons rfl (.nil _))) (.cons rfl (.cons rfl (.cons rfl (.cons rfl (.nil _))))) (by
                          try dsimp only
                          exact ⟨by omega, hnew⟩) (by
                          try dsimp only
                          omega) 
                  · -- c129.f
                    have hwl : want.length = i := by rw [hw]; simp [movL]
                    refine w_exit ?_
                    refine st_te ?_
                    refine st_te ?_
                    refine st_be ?_
                    refine st_tn ?_
                    refine w_seq ?_
                    refine w_region ?_
                    refine wl_det rfl rfl rfl (op_move rfl) ?_
                    refine wl_det rfl rfl rfl (op_val (v' := .bool true) (by rw [hM]; rfl) (op_eql rfl rfl)) ?_
                    refine wl_det rfl rfl rfl (op_move rfl) ?_
                    refine wl_wanted_det rfl rfl rfl rfl rfl rfl rfl (op_move rfl) ?_
                    refine wl_wanted_det rfl rfl rfl rfl rfl rfl rfl (op_move rfl) ?_
                    refine wl_wanted_det rfl rfl rfl rfl rfl rfl rfl (op_val (v' := .bool true) (by 
                          refine congrArg Value.bool (decide_eq_true ?_)
                          rw [hm37, hM, if_pos rfl, hw, show i = L.length by omega]) (op_fn Try.func22 rfl rfl rfl (ints_any (Sl.lab 37 rfl (by first | (simp [maxLen]; done) | (unfold maxLen; omega))) (Sl.lab 16 rfl (by first | (simp [maxLen]; done) | (unfold maxLen; omega)))))) ?_
                    refine wl_det rfl rfl rfl (op_pick_t rfl rfl) ?_
                    refine wl_det rfl rfl rfl (op_assign rfl) ?_
                    refine wl_nil ?_
                    refine st_tn ?_
                    refine w_ret ?_
                    refine st_ret (vs := [_]) [] Try.results6 ⟨rfl, trivial⟩ rfl ?_
                    refine ⟨_, rfl, ?_⟩
                    exact ⟨rfl, rfl⟩
          · -- c87.f
            have hC := coarsen_fit (k := k) (fr := fr) (by omega) hv8 hc87
            have hvC : ∀ x ∈ (coarsenR k fr L sz).vals, 0 ≤ x ∧ x ≤ 1099511627776 := by rw [hC]; exact coarse_bd255 (by omega) hv8
            refine w_seq ?_
            by_cases hlat : k.met ≠ 3
            · -- hlat True
              refine w_drawW (fun β => [⟨90, [], [], [], noW (_), false, [], []⟩, ⟨91, [0], [], [], noW (_), false, [], []⟩, ⟨92, [1], [], [], noW (_), false, [], []⟩, ⟨93, [], [], [], noW (_), false, [], []⟩, ⟨94, [], [], [], noW (_), false, [], []⟩, ⟨95, [], [], [], noW (_), false, [], []⟩, ⟨96, [4, 5], [], [], fun w => AndW _ (DetW _ _), false, [], []⟩, ⟨97, [3, 6], [], [], noW (_), false, [], []⟩, ⟨98, [7], [], [], noW (_), false, [], []⟩, ⟨99, [2, 8], [], [], noW (_), false, [], []⟩, ⟨100, [9], [], [], noW (_), false, [], []⟩, ⟨101, [], [], [], noW (_), false, [], []⟩, ⟨102, [11], [], [], noW (_), false, [], []⟩, ⟨103, [12], [], [], noW (_), false, [], []⟩, ⟨104, [13], [], [], noW (_), false, [], []⟩, ⟨105, [], [], [], noW (_), false, [], []⟩, ⟨106, [15], [], [], noW (_), false, [], []⟩, ⟨107, [], [], [], noW (_), false, [], []⟩, ⟨108, [17], [], [], noW (_), false, [], []⟩, ⟨109, [16, 18], [], [], noW (_), false, [], []⟩, ⟨110, [14, 19], [], [], noW (_), false, [], []⟩, ⟨111, [10, 20], [], [], noW (_), false, [], []⟩]) [] [11, 10, 7, 2] [⟨90, [], [], false, [], []⟩, ⟨91, [0], [], false, [], []⟩, ⟨92, [1], [], false, [], []⟩, ⟨93, [], [], false, [], []⟩, ⟨94, [], [], false, [], []⟩, ⟨95, [], [], false, [], []⟩, ⟨96, [4, 5], [], false, [], []⟩, ⟨97, [3, 6], [], false, [], []⟩, ⟨98, [7], [], false, [], []⟩, ⟨99, [2, 8], [], false, [], []⟩, ⟨100, [9], [], false, [], []⟩, ⟨101, [], [], false, [], []⟩, ⟨102, [11], [], false, [], []⟩, ⟨103, [12], [], false, [], []⟩, ⟨104, [13], [], false, [], []⟩, ⟨105, [], [], false, [], []⟩, ⟨106, [15], [], false, [], []⟩, ⟨107, [], [], false, [], []⟩, ⟨108, [17], [], false, [], []⟩, ⟨109, [16, 18], [], false, [], []⟩, ⟨110, [14, 19], [], false, [], []⟩, ⟨111, [10, 20], [], false, [], []⟩] [[], [], [], [], [], [], [], [6], [6], [6], [6], [], [], [], [], [], [], [], [], [], [], [6]] [[], [], [], [], [], [], [], [], [], [], [], [], [], [], [], [], [], [], [], [], [], []] tMixj (fun _ => by rfl) (fun _ => by rfl) (by kernel_rfl) (by kernel_rfl) (by rfl) (by rfl)
                  (fun β => ⟨.p rfl (by intro X; exact op_move rfl),
                  ⟨.p rfl (by intro X; rintro _ _ ⟨rfl, rfl⟩; exact op_val (v' := .bool false) (by rw [hC]; rfl) (op_neq rfl rfl)),
                  ⟨.p rfl (by intro X; rintro _ _ ⟨rfl, rfl⟩; exact op_move rfl),
                  ⟨.w rfl rfl rfl (by rintro _ _ ⟨rfl, rfl⟩; rfl) (by intro X; exact op_loadA rfl tA48j (Ent.lab (l := 10) rfl (says_cel 0)) (Nat.le_of_ble_eq_true rfl)),
                  ⟨.w rfl rfl rfl (by rintro _ _ ⟨rfl, rfl⟩; rfl) (by intro X; exact op_loadA rfl tA48j (Ent.lab (l := 7) rfl (says_cel 0)) (Nat.le_of_ble_eq_true rfl)),
                  ⟨.w rfl rfl rfl (by rintro _ _ ⟨rfl, rfl⟩; rfl) (by intro X; exact op_move rfl),
                  ⟨.wx rfl rfl rfl (by rintro _ _ ⟨rfl, rfl⟩; rfl) (by intro X; rintro _ _ ⟨rfl, rfl⟩ _ _ ⟨rfl, rfl⟩; refine OpT.mono (op_fn Try.func28 rfl rfl rfl (lcoarsen_any 96 _ _ _ (Sl.lab 21 rfl (by first | (simp [maxLen]; done) | (unfold maxLen; omega))) (by omega) (by omega) (by assumption) (by omega))) ?_; rintro _ _ ⟨m96, a96, c96, hm96, rfl, rfl⟩; obtain ⟨w, rfl, rfl, rfl⟩ : ∃ w : Wt, w.l = m96 ∧ w.a = a96 ∧ w.c = c96 := ⟨{ l := m96, a := a96, c := c96 }, rfl, rfl, rfl⟩; exact ⟨w, hm96, rfl, rfl⟩),
                  ⟨.w rfl rfl rfl (by rintro _ _ ⟨rfl, rfl⟩; rfl) (by intro X; rintro _ _ ⟨rfl, rfl⟩ _ _ ⟨hm96, rfl, rfl⟩; exact op_val (v' := .bool true) (by (refine congrArg Value.bool (decide_eq_true ?_)); (rw [hC, hm96]; exact ⟨sameK_eq.2 rfl, rfl, rfl⟩)) (op_fn Try.func27 rfl rfl rfl (lsame_any _ _ _ _ (Sl.lab 31 rfl (by first | (simp [maxLen]; done) | (unfold maxLen; omega))) (Sl.lab 96 rfl (by rw [hm96]; have := coarse_le (lat := decide (k.met = 3)) (fr := fr) (sz := sz) (l := L) L.length; unfold maxLen; omega))))),
                  ⟨.w rfl rfl rfl (by rintro _ _ ⟨rfl, rfl⟩; rfl) (by intro X; rintro _ _ ⟨rfl, rfl⟩; exact op_not_t rfl),
                  ⟨.p rfl (by intro X; rintro _ _ ⟨rfl, rfl⟩ _ _ ⟨rfl, rfl⟩; exact op_pick_f rfl rfl),
                  ⟨.p rfl (by intro X; rintro _ _ ⟨rfl, rfl⟩; exact op_move rfl),
                  ⟨.w rfl rfl rfl (by rintro _ _ ⟨rfl, rfl⟩; rfl) (by intro X; exact op_fieldAddr (off := 2) rfl tF48_2j),
                  ⟨.w rfl rfl rfl (by rintro _ _ ⟨rfl, rfl⟩; rfl) (by intro X; rintro _ _ ⟨rfl, rfl⟩; exact op_load1 rfl tO3j (Ent.lab (l := 7) rfl (says_cel 2))),
                  ⟨.w rfl rfl rfl (by rintro _ _ ⟨rfl, rfl⟩; rfl) (by intro X; rintro _ _ ⟨rfl, rfl⟩; exact op_neq rfl rfl),
                  ⟨.w rfl rfl rfl (by rintro _ _ ⟨rfl, rfl⟩; rfl) (by intro X; rintro _ _ ⟨rfl, rfl⟩; exact op_move rfl),
                  ⟨.w rfl rfl rfl (by rintro _ _ ⟨rfl, rfl⟩; first | rfl | (exact congrArg Value.bool (decide_eq_true (by omega))) | (exact congrArg Value.bool (decide_eq_false (by omega))) | (simp; done) | (simp; omega) | (simp [*]; done)) (by intro X; exact op_loadA rfl tA48j (Ent.lab (l := 10) rfl (says_cel 0)) (Nat.le_of_ble_eq_true rfl)),
                  ⟨.w rfl rfl rfl (by rintro _ _ ⟨rfl, rfl⟩; first | rfl | (exact congrArg Value.bool (decide_eq_true (by omega))) | (exact congrArg Value.bool (decide_eq_false (by omega))) | (simp; done) | (simp; omega) | (simp [*]; done)) (by intro X; rintro _ _ ⟨rfl, rfl⟩; exact op_fn Try.func29 rfl rfl rfl (total_any _ _ (Sl.lab 31 rfl (by first | (simp [maxLen]; done) | (unfold maxLen; omega))) (by omega) (by assumption))),
                  ⟨.w rfl rfl rfl (by rintro _ _ ⟨rfl, rfl⟩; first | rfl | (exact congrArg Value.bool (decide_eq_true (by omega))) | (exact congrArg Value.bool (decide_eq_false (by omega))) | (simp; done) | (simp; omega) | (simp [*]; done)) (by intro X; exact op_loadA rfl tA48j (Ent.lab (l := 7) rfl (says_cel 0)) (Nat.le_of_ble_eq_true rfl)),
                  ⟨.w rfl rfl rfl (by rintro _ _ ⟨rfl, rfl⟩; first | rfl | (exact congrArg Value.bool (decide_eq_true (by omega))) | (exact congrArg Value.bool (decide_eq_false (by omega))) | (simp; done) | (simp; omega) | (simp [*]; done)) (by intro X; rintro _ _ ⟨rfl, rfl⟩; exact op_fn Try.func29 rfl rfl rfl (total_any _ _ (Sl.lab 21 rfl (by first | (simp [maxLen]; done) | (unfold maxLen; omega))) (by omega) (by assumption))),
                  ⟨.w rfl rfl rfl (by rintro _ _ ⟨rfl, rfl⟩; first | rfl | (exact congrArg Value.bool (decide_eq_true (by omega))) | (exact congrArg Value.bool (decide_eq_false (by omega))) | (simp; done) | (simp; omega) | (simp [*]; done)) (by intro X; rintro _ _ ⟨rfl, rfl⟩ _ _ ⟨rfl, rfl⟩; exact op_val (v' := .bool false) (by (refine congrArg Value.bool (decide_eq_false ?_)); (rw [hC]; dsimp only; rw [decide_eq_false hlat, coarse_sum (by omega) _ (Nat.le_refl _), List.take_length]; simp)) (op_neq rfl rfl)),
                  ⟨.w rfl rfl rfl (by rintro _ _ ⟨rfl, rfl⟩; rfl) (by intro X; rintro _ _ ⟨rfl, rfl⟩ _ _ ⟨rfl, rfl⟩; exact op_pick_t (by first | rfl | (show some (Value.bool (decide _)) = _; rw [decide_eq_true (by omega)]) | (show some (Value.bool (decide _)) = _; rw [decide_eq_false (by omega)]) | (simp [ev, lk]; done) | (simp [ev, lk]; omega) | (simp [ev, lk, *]; done)) rfl),
                  ⟨.p rfl (by intro X; rintro _ _ ⟨rfl, rfl⟩ _ _ ⟨rfl, rfl⟩; exact op_pick_f rfl rfl),
                  trivial⟩⟩⟩⟩⟩⟩⟩⟩⟩⟩⟩⟩⟩⟩⟩⟩⟩⟩⟩⟩⟩⟩)
                  (fun β β' => ⟨fun _ => by rfl, ⟨fun _ => by rfl, ⟨fun _ => by rfl, ⟨fun _ => by rfl, ⟨fun _ => by rfl, ⟨fun _ => by rfl, ⟨fun _ => by rfl, ⟨fun h => by first | rfl | (simp only [h 6 (by decide)]), ⟨fun h => by first | rfl | (simp only [h 6 (by decide)]), ⟨fun h => by first | rfl | (simp only [h 6 (by decide)]), ⟨fun h => by first | rfl | (simp only [h 6 (by decide)]), ⟨fun _ => by rfl, ⟨fun _ => by rfl, ⟨fun _ => by rfl, ⟨fun _ => by rfl, ⟨fun _ => by rfl, ⟨fun _ => by rfl, ⟨fun _ => by rfl, ⟨fun _ => by rfl, ⟨fun _ => by rfl, ⟨fun _ => by rfl, ⟨fun h => by first | rfl | (simp only [h 6 (by decide)]), trivial⟩⟩⟩⟩⟩⟩⟩⟩⟩⟩⟩⟩⟩⟩⟩⟩⟩⟩⟩⟩⟩⟩) ?_
              intro β
              rintro _ _ ⟨rfl, rfl⟩ _ _ ⟨rfl, rfl⟩ _ _ ⟨rfl, rfl⟩ _ _ ⟨rfl, rfl⟩ _ _ ⟨rfl, rfl⟩ _ _ ⟨rfl, rfl⟩ _ _ ⟨hm96, rfl, rfl⟩ _ _ ⟨rfl, rfl⟩ _ _ ⟨rfl, rfl⟩ _ _ ⟨rfl, rfl⟩ _ _ ⟨rfl, rfl⟩ _ _ ⟨rfl, rfl⟩ _ _ ⟨rfl, rfl⟩ _ _ ⟨rfl, rfl⟩ _ _ ⟨rfl, rfl⟩ _ _ ⟨rfl, rfl⟩ _ _ ⟨rfl, rfl⟩ _ _ ⟨rfl, rfl⟩ _ _ ⟨rfl, rfl⟩ _ _ ⟨rfl, rfl⟩ _ _ ⟨rfl, rfl⟩ _ _ ⟨rfl, rfl⟩
              generalize (β 6).l = m96 at hm96 ⊢
              generalize (β 6).a = a96 at hm96 ⊢
              generalize (β 6).c = c96 at hm96 ⊢
              refine wl_norm (e' := [(2, _), (7, _), (12, _), (13, _), (111, _)]) (.cons rfl (.cons rfl (.cons rfl (.cons rfl (.cons rfl (.nil _)))))) (by dsimp only [cond_false, cond_true, List.nil_append, List.cons_append]) ?_
              refine wl_nil ?_
              refine st_tn ?_
              refine w_cond_f (rfl) ?_
              refine w_skip ?_
              refine st_tn ?_
              refine w_seq ?_
              refine w_seq ?_
              refine w_cutL [(117, .bool (decide (sz < 1 ∨ sz > 1024)))] [2, 7, 12, 13] [3, 21, 7, 25, 8, 31, 10, 37, 14, 96] rfl (fun K' hK => ?_) ?_
              · -- cut r19
                refine w_region ?_
                refine wl_det rfl rfl rfl (op_move rfl) ?_
                refine wl_det rfl rfl rfl (op_lss rfl rfl) ?_
                refine wl_det rfl rfl rfl (op_move rfl) ?_
                refine wl_gsplit (t := 114) rfl (fun hg114 => ?_) (fun hg114 => ?_)
                · -- 114 is True
                  refine wl_unwanted rfl rfl rfl rfl rfl rfl rfl rfl ?_
                  refine wl_unwanted rfl rfl rfl rfl rfl rfl rfl rfl ?_
                  refine wl_det rfl rfl rfl (op_pick_t rfl rfl) ?_
                  refine wl_nil ?_
                  refine st_tn ?_
                  exact cut_done1 [3, 21, 7, 25, 8, 31, 10, 37, 14, 96] hK rfl (by first | (rw [decide_eq_decide]; omega) | (symm; rw [decide_eq_false_iff_not]; omega) | (symm; rw [decide_eq_true_iff]; omega) | (simp; done) | (simp; omega) | (simp [*]; done) | (simp [*]; omega)) (by rfl) rfl rfl
                · -- 114 is False
                  refine wl_wanted_det rfl rfl rfl rfl rfl rfl rfl (op_move rfl) ?_
                  refine wl_wanted_det rfl rfl rfl rfl rfl rfl rfl (op_gtr rfl rfl) ?_
                  refine wl_det rfl rfl rfl (op_pick_f rfl rfl) ?_
                  refine wl_nil ?_
                  refine st_tn ?_
                  exact cut_done1 [3, 21, 7, 25, 8, 31, 10, 37, 14, 96] hK rfl (by first | (rw [decide_eq_decide]; omega) | (symm; rw [decide_eq_false_iff_not]; omega) | (symm; rw [decide_eq_true_iff]; omega) | (simp; done) | (simp; omega) | (simp [*]; done) | (simp [*]; omega)) (by rfl) rfl rfl
              · -- behind r19
                show W _ _ _ _ _ [(117, _), (2, _), (7, _), (12, _), (13, _)] [(3, _), (21, _), (7, _), (25, _), (8, _), (31, _), (10, _), (37, _), (14, _), (96, _)] _
                refine w_cond_d rfl (fun hc117 => ?_) (fun hc117 => ?_)
                · -- c117.t
                  have hM : movE k sz = 2 := by unfold movE; rw [if_pos hc117]
                  refine w_seq ?_
                  refine w_region ?_
                  refine wl_det rfl rfl rfl (op_move rfl) ?_
                  refine wl_det rfl rfl rfl (op_val (v' := .bool true) (by rw [hM]; rfl) (op_eql rfl rfl)) ?_
                  refine wl_det rfl rfl rfl (op_assign rfl) ?_
                  refine wl_nil ?_
                  refine st_tn ?_
                  refine w_ret ?_
                  refine st_tr ?_
                  refine st_ret (vs := [_]) [] Try.results6 ⟨rfl, trivial⟩ rfl ?_
                  refine ⟨_, rfl, ?_⟩
                  exact ⟨rfl, rfl⟩
                · -- c117.f
                  refine w_skip ?_
                  refine st_tn ?_
                  refine w_seq ?_
                  refine w_seq ?_
                  refine w_region ?_
                  refine wl_det rfl rfl rfl (op_fieldAddr (off := 2) rfl tF48_2j) ?_
                  refine wl_det rfl rfl rfl (op_load1 rfl tO3j (Ent.lab (l := 7) rfl (says_cel 2))) ?_
                  refine wl_det rfl rfl rfl (op_eql rfl rfl) ?_
                  refine wl_nil ?_
                  refine st_tn ?_
                  refine w_cond_d rfl (fun hc122 => ?_) (fun hc122 => ?_)
                  · -- c122.t
                    have hM : movE k sz = 12 := by unfold movE; rw [if_neg hc117, if_pos hc122]
                    refine w_seq ?_
                    refine w_region ?_
                    refine wl_det rfl rfl rfl (op_move rfl) ?_
                    refine wl_det rfl rfl rfl (op_val (v' := .bool true) (by rw [hM]; rfl) (op_eql rfl rfl)) ?_
                    refine wl_det rfl rfl rfl (op_assign rfl) ?_
                    refine wl_nil ?_
                    refine st_tn ?_
                    refine w_ret ?_
                    refine st_tr ?_
                    refine st_ret (vs := [_]) [] Try.results6 ⟨rfl, trivial⟩ rfl ?_
                    refine ⟨_, rfl, ?_⟩
                    exact ⟨rfl, rfl⟩
                  · -- c122.f
                    have hM : movE k sz = 0 := by unfold movE; rw [if_neg hc117, if_neg hc122]
                    obtain ⟨w, rfl⟩ := Int.eq_ofNat_of_zero_le (show 0 ≤ sz by omega)
                    refine w_skip ?_
                    refine st_tn ?_
                    refine w_seq ?_
                    refine w_region ?_
                    refine wl_det rfl rfl rfl (op_assign rfl) ?_
                    refine wl_nil ?_
                    refine st_tn ?_
                    refine w_seq ?_
                    refine w_seq ?_
                    refine w_region ?_
                    refine wl_det rfl rfl rfl (op_assign rfl) ?_
                    refine wl_nil ?_
                    refine st_tn ?_
                    refine w_block ?_
                    refine w_emp 16 (slO_nil 3 1) ?_
                    refine w_loopQ (X := List Int × Option Addr × Nat × Nat) (fun z => z.2.2.2 ≤ L.length ∧ z.1 = movL L w z.2.2.2) (fun z => [(16, .slice (z.2.1) (z.1).length (z.2.2.1)), (17, .int .i64 (z.2.2.2))]) (fun z => [(16, slW 3 encZ 1 (.slice (z.2.1) (z.1).length (z.2.2.1)) (z.1))]) (fun z => L.length - z.2.2.2) (([], none, 0, 0)) [(2, _), (7, _), (12, _), (13, _)] [(3, _), (21, _), (7, _), (25, _), (8, _), (31, _), (10, _), (37, _), (14, _), (96, _)] [16, 3, 21, 7, 25, 8, 31, 10, 37, 14, 96] rfl (rfl) (.cons rfl (.cons rfl (.nil _))) (.cons rfl (.cons rfl (.cons rfl (.cons rfl (.nil _))))) (by
                        try dsimp only
                        exact ⟨Nat.zero_le _, rfl⟩) ?_
                    rintro ⟨want, a_want, c_want, i⟩ ⟨hi, hw⟩
                    refine w_norm2 (by dsimp only [List.cons_append, List.nil_append]) (by dsimp only [List.cons_append, List.nil_append]) ?_
                    try dsimp only at hi hw ⊢
                    refine w_seq ?_
                    refine w_seq ?_
                    refine w_region ?_
                    refine wl_det rfl rfl rfl (op_move rfl) ?_
                    refine wl_det rfl rfl rfl (op_fieldAddr (off := 6) rfl tF48_5j) ?_
                    refine wl_det rfl rfl rfl (op_load1 rfl tO25j (Ent.lab (l := 7) rfl (says_cel 6))) ?_
                    refine wl_det rfl rfl rfl (op_lenT rfl tS25j (Sl.ent (Sl.lab 21 rfl (by first | (simp [maxLen]; done) | (unfold maxLen; omega))))) ?_
                    refine wl_det rfl rfl rfl (op_lss rfl rfl) ?_
                    refine wl_nil ?_
                    refine st_tn ?_
                    refine w_cond_d rfl (fun hc129 => ?_) (fun hc129 => ?_)
                    · -- c129.t
                      obtain ⟨x, hx⟩ := getE (l := L) (i := i) (by omega)
                      have hwl : want.length = i := by rw [hw]; simp [movL]
                      refine w_skip ?_
                      refine st_tn ?_
                      refine w_seq ?_
                      refine w_block ?_
                      refine w_seq ?_
                      refine w_region ?_
                      refine wl_det rfl rfl rfl (op_assign rfl) ?_
                      refine wl_nil ?_
                      refine st_tn ?_
                      refine w_seq ?_
                      refine w_seq ?_
                      refine w_region ?_
                      refine wl_det rfl rfl rfl (op_move rfl) ?_
                      refine wl_det rfl rfl rfl (op_move rfl) ?_
                      refine wl_det rfl rfl rfl (op_sub' rfl rfl (by omega)) ?_
                      refine wl_det rfl rfl rfl (op_add' rfl rfl (by omega)) ?_
                      refine wl_det rfl rfl rfl (op_val (v' := .int .i64 ((i + 1 - w : Nat) : Int)) (by congr 1; omega) (op_max rfl rfl)) ?_
                      refine wl_det rfl rfl rfl (op_assign rfl) ?_
                      refine wl_nil ?_
                      refine st_tn ?_
                      refine w_block ?_
                      refine w_loopQ (X := Int × Nat) (fun z => (i + 1 - w ≤ z.2 ∧ z.2 ≤ i + 1) ∧ z.1 = ((L.take z.2).drop (i + 1 - w)).sum ∧ 0 ≤ z.1 ∧ z.1 ≤ z.2 * 255) (fun z => [(18, .int .i64 (z.1)), (19, .int .i64 (z.2))]) (fun _ => []) (fun z => i + 1 - z.2) ((_, i + 1 - w)) [(2, _), (7, _), (12, _), (13, _), (16, _), (17, _)] [(16, _), (3, _), (21, _), (7, _), (25, _), (8, _), (31, _), (10, _), (37, _), (14, _), (96, _)] [16, 3, 21, 7, 25, 8, 31, 10, 37, 14, 96] rfl (rfl) (.cons rfl (.cons rfl (.nil _))) (.cons rfl (.cons rfl (.cons rfl (.cons rfl (.cons rfl (.cons rfl (.nil _))))))) (by
                          try dsimp only
                          refine ⟨⟨Nat.le_refl _, by omega⟩, ?_, by omega, by omega⟩
                          rw [List.drop_of_length_le (by rw [List.length_take]; omega)]; rfl) ?_
                      rintro ⟨n, j⟩ ⟨⟨hj0, hj1⟩, hn, hn0, hn1⟩
                      refine w_norm2 (by dsimp only [List.cons_append, List.nil_append]) (by dsimp only [List.cons_append, List.nil_append]) ?_
                      try dsimp only at hj0 hj1 hn hn0 hn1 ⊢
                      refine w_seq ?_
                      refine w_seq ?_
                      refine w_region ?_
                      refine wl_det rfl rfl rfl (op_move rfl) ?_
                      refine wl_det rfl rfl rfl (op_move rfl) ?_
                      refine wl_det rfl rfl rfl (op_leq rfl rfl) ?_
                      refine wl_nil ?_
                      refine st_tn ?_
                      refine w_cond_d rfl (fun hc139 => ?_) (fun hc139 => ?_)
                      · -- c139.t
                        obtain ⟨z, hz⟩ := getE (l := L) (i := j) (by omega)
                        have hzb := hv8 z (List.mem_of_getElem? hz)
                        refine w_skip ?_
                        refine st_tn ?_
                        refine w_seq ?_
                        refine w_block ?_
                        refine w_region ?_
                        refine wl_det rfl rfl rfl (op_move rfl) ?_
                        refine wl_det rfl rfl rfl (op_fieldAddr (off := 6) rfl tF48_5j) ?_
                        refine wl_det rfl rfl rfl (op_load1 rfl tO25j (Ent.lab (l := 7) rfl (says_cel 6))) ?_
                        refine wl_det rfl rfl rfl (op_move rfl) ?_
                        refine wl_det rfl rfl rfl (op_idx rfl rfl tS25j (Sl.ent (Sl.lab 21 rfl (by first | (simp [maxLen]; done) | (unfold maxLen; omega)))) (by omega)) ?_
                        refine wl_det rfl rfl rfl (op_ldx rfl tO3j (Sl.lab 21 rfl (by first | (simp [maxLen]; done) | (unfold maxLen; omega))) (by assumption) (by rfl)) ?_
                        refine wl_det rfl rfl rfl (op_add' rfl rfl (by omega)) ?_
                        refine wl_det rfl rfl rfl (op_assign rfl) ?_
                        refine wl_nil ?_
                        refine st_bn ?_
                        refine st_tn ?_
                        refine w_region ?_
                        refine wl_det rfl rfl rfl (op_move rfl) ?_
                        refine wl_det rfl rfl rfl (op_add' rfl rfl (by omega)) ?_
                        refine wl_det rfl rfl rfl (op_assign rfl) ?_
                        refine wl_nil ?_
                        refine st_roundQ (x := (n, j)) ((_, j + 1)) [16, 3, 21, 7, 25, 8, 31, 10, 37, 14, 96] rfl (rfl) (.cons rfl (.cons rfl (.nil _))) (.cons rfl (.cons rfl (.cons rfl (.cons rfl (.cons rfl (.cons rfl (.nil _))))))) (by
                            try dsimp only
                            refine ⟨⟨by omega, by omega⟩, ?_, by omega, by omega⟩
                            rw [take_snoc hz, List.drop_append_of_le_length (by rw [List.length_take]; omega), List.sum_append, ← hn]; simp) (by
                            try dsimp only
                            omega) 
                      · -- c139.f
                        obtain rfl : j = i + 1 := by omega
                        have hnew : want ++ [n] = movL L w (i + 1) := by
                          rw [movL_succ, ← hw, mov_wsum (by omega) _ (by omega), hn]; rfl
                        refine w_exit ?_
                        refine st_te ?_
                        refine st_te ?_
                        refine st_be ?_
                        refine st_tn ?_
                        refine w_region ?_
                        refine wl_det rfl rfl rfl (op_move rfl) ?_
                        refine wl_det rfl rfl rfl (op_move rfl) ?_
                        refine wl_op [] rfl rfl rfl rfl (op_buildSlice (enc := encZ) (l := [_]) (lab := 151) tL25_1j rfl rfl (fun _ => rfl) rfl) ?_
                        rintro _ _ ⟨a151, c151, rfl, rfl⟩
                        refine wl_op [16] rfl rfl rfl rfl (op_append (lab := 16) (lab' := 152) rfl rfl tP25j enc1Z (Sl.lab 151 rfl (by simp [maxLen])) (by first | omega | (simp; done) | (simp; omega) | (simp [*]; omega)) (by first | omega | (simp; done) | (simp; omega) | (simp [*]; omega))) ?_
                        rintro _ _ ⟨a152, c152, rfl, rfl⟩
                        refine wl_det rfl rfl rfl (op_assign rfl) ?_
                        refine wl_nil ?_
                        refine st_bn ?_
                        refine st_tn ?_
                        refine w_region ?_
                        refine wl_det rfl rfl rfl (op_move rfl) ?_
                        refine wl_det rfl rfl rfl (op_add' rfl rfl (by omega)) ?_
                        refine wl_det rfl rfl rfl (op_assign rfl) ?_
                        refine wl_nil ?_
                        refine st_roundQ (x := (want, a_want, c_want, i)) ((_, _, _, i + 1)) [152, 3, 21, 7, 25, 8, 31, 10, 37, 14, 96] rfl (rfl) (.cons rfl (.cons rfl (.nil _))) (.cons rfl (.cons rfl (.cons rfl (.cons rfl (.nil _))))) (by
                            try dsimp only
                            exact ⟨by omega, hnew⟩) (by
                            try dsimp only
                            omega) 
                    · -- c129.f
                      have hwl : want.length = i := by rw [hw]; simp [movL]
                      refine w_exit ?_
                      refine st_te ?_
                      refine st_te ?_
                      refine st_be ?_
                      refine st_tn ?_
                      refine w_seq ?_
                      refine w_region ?_
                      refine wl_det rfl rfl rfl (op_move rfl) ?_
                      refine wl_det rfl rfl rfl (op_val (v' := .bool true) (by rw [hM]; rfl) (op_eql rfl rfl)) ?_
                      refine wl_det rfl rfl rfl (op_move rfl) ?_
                      refine wl_wanted_det rfl rfl rfl rfl rfl rfl rfl (op_move rfl) ?_
                      refine wl_wanted_det rfl rfl rfl rfl rfl rfl rfl (op_move rfl) ?_
                      refine wl_wanted_det rfl rfl rfl rfl rfl rfl rfl (op_val (v' := .bool true) (by 
                            refine congrArg Value.bool (decide_eq_true ?_)
                            rw [hm37, hM, if_pos rfl, hw, show i = L.length by omega]) (op_fn Try.func22 rfl rfl rfl (ints_any (Sl.lab 37 rfl (by first | (simp [maxLen]; done) | (unfold maxLen; omega))) (Sl.lab 16 rfl (by first | (simp [maxLen]; done) | (unfold maxLen; omega)))))) ?_
                      refine wl_det rfl rfl rfl (op_pick_t rfl rfl) ?_
                      refine wl_det rfl rfl rfl (op_assign rfl) ?_
                      refine wl_nil ?_
                      refine st_tn ?_
                      refine w_ret ?_
                      refine st_ret (vs := [_]) [] Try.results6 ⟨rfl, trivial⟩ rfl ?_
                      refine ⟨_, rfl, ?_⟩
                      exact ⟨rfl, rfl⟩
            · -- hlat False
              refine w_drawW (fun β => [⟨90, [], [], [], noW (_), false, [], []⟩, ⟨91, [0], [], [], noW (_), false, [], []⟩, ⟨92, [1], [], [], noW (_), false, [], []⟩, ⟨93, [], [], [], noW (_), false, [], []⟩, ⟨94, [], [], [], noW (_), false, [], []⟩, ⟨95, [], [], [], noW (_), false, [], []⟩, ⟨96, [4, 5], [], [], fun w => AndW _ (DetW _ _), false, [], []⟩, ⟨97, [3, 6], [], [], noW (_), false, [], []⟩, ⟨98, [7], [], [], noW (_), false, [], []⟩, ⟨99, [2, 8], [], [], noW (_), false, [], []⟩, ⟨100, [9], [], [], noW (_), false, [], []⟩, ⟨101, [], [], [], noW (_), false, [], []⟩, ⟨102, [11], [], [], noW (_), false, [], []⟩, ⟨103, [12], [], [], noW (_), false, [], []⟩, ⟨104, [13], [], [], noW (_), false, [], []⟩, ⟨105, [], [], [], noW (Det undef), false, [], []⟩, ⟨106, [], [], [], noW (Det undef), false, [], []⟩, ⟨107, [], [], [], noW (Det undef), false, [], []⟩, ⟨108, [], [], [], noW (Det undef), false, [], []⟩, ⟨109, [], [], [], noW (Det undef), false, [], []⟩, ⟨110, [14, 19], [], [], noW (_), false, [], []⟩, ⟨111, [10, 20], [], [], noW (_), false, [], []⟩]) [] [11, 10, 7, 2] [⟨90, [], [], false, [], []⟩, ⟨91, [0], [], false, [], []⟩, ⟨92, [1], [], false, [], []⟩, ⟨93, [], [], false, [], []⟩, ⟨94, [], [], false, [], []⟩, ⟨95, [], [], false, [], []⟩, ⟨96, [4, 5], [], false, [], []⟩, ⟨97, [3, 6], [], false, [], []⟩, ⟨98, [7], [], false, [], []⟩, ⟨99, [2, 8], [], false, [], []⟩, ⟨100, [9], [], false, [], []⟩, ⟨101, [], [], false, [], []⟩, ⟨102, [11], [], false, [], []⟩, ⟨103, [12], [], false, [], []⟩, ⟨104, [13], [], false, [], []⟩, ⟨105, [], [], false, [], []⟩, ⟨106, [], [], false, [], []⟩, ⟨107, [], [], false, [], []⟩, ⟨108, [], [], false, [], []⟩, ⟨109, [], [], false, [], []⟩, ⟨110, [14, 19], [], false, [], []⟩, ⟨111, [10, 20], [], false, [], []⟩] [[], [], [], [], [], [], [], [6], [6], [6], [6], [], [], [], [], [], [], [], [], [], [], [6]] [[], [], [], [], [], [], [], [], [], [], [], [], [], [], [], [], [], [], [], [], [], []] tMixj (fun _ => by rfl) (fun _ => by rfl) (by kernel_rfl) (by kernel_rfl) (by rfl) (by rfl)
                  (fun β => ⟨.p rfl (by intro X; exact op_move rfl),
                  ⟨.p rfl (by intro X; rintro _ _ ⟨rfl, rfl⟩; exact op_val (v' := .bool false) (by rw [hC]; rfl) (op_neq rfl rfl)),
                  ⟨.p rfl (by intro X; rintro _ _ ⟨rfl, rfl⟩; exact op_move rfl),
                  ⟨.w rfl rfl rfl (by rintro _ _ ⟨rfl, rfl⟩; rfl) (by intro X; exact op_loadA rfl tA48j (Ent.lab (l := 10) rfl (says_cel 0)) (Nat.le_of_ble_eq_true rfl)),
                  ⟨.w rfl rfl rfl (by rintro _ _ ⟨rfl, rfl⟩; rfl) (by intro X; exact op_loadA rfl tA48j (Ent.lab (l := 7) rfl (says_cel 0)) (Nat.le_of_ble_eq_true rfl)),
                  ⟨.w rfl rfl rfl (by rintro _ _ ⟨rfl, rfl⟩; rfl) (by intro X; exact op_move rfl),
                  ⟨.wx rfl rfl rfl (by rintro _ _ ⟨rfl, rfl⟩; rfl) (by intro X; rintro _ _ ⟨rfl, rfl⟩ _ _ ⟨rfl, rfl⟩; refine OpT.mono (op_fn Try.func28 rfl rfl rfl (lcoarsen_any 96 _ _ _ (Sl.lab 21 rfl (by first | (simp [maxLen]; done) | (unfold maxLen; omega))) (by omega) (by omega) (by assumption) (by omega))) ?_; rintro _ _ ⟨m96, a96, c96, hm96, rfl, rfl⟩; obtain ⟨w, rfl, rfl, rfl⟩ : ∃ w : Wt, w.l = m96 ∧ w.a = a96 ∧ w.c = c96 := ⟨{ l := m96, a := a96, c := c96 }, rfl, rfl, rfl⟩; exact ⟨w, hm96, rfl, rfl⟩),
                  ⟨.w rfl rfl rfl (by rintro _ _ ⟨rfl, rfl⟩; rfl) (by intro X; rintro _ _ ⟨rfl, rfl⟩ _ _ ⟨hm96, rfl, rfl⟩; exact op_val (v' := .bool true) (by (refine congrArg Value.bool (decide_eq_true ?_)); (rw [hC, hm96]; exact ⟨sameK_eq.2 rfl, rfl, rfl⟩)) (op_fn Try.func27 rfl rfl rfl (lsame_any _ _ _ _ (Sl.lab 31 rfl (by first | (simp [maxLen]; done) | (unfold maxLen; omega))) (Sl.lab 96 rfl (by rw [hm96]; have := coarse_le (lat := decide (k.met = 3)) (fr := fr) (sz := sz) (l := L) L.length; unfold maxLen; omega))))),
                  ⟨.w rfl rfl rfl (by rintro _ _ ⟨rfl, rfl⟩; rfl) (by intro X; rintro _ _ ⟨rfl, rfl⟩; exact op_not_t rfl),
                  ⟨.p rfl (by intro X; rintro _ _ ⟨rfl, rfl⟩ _ _ ⟨rfl, rfl⟩; exact op_pick_f rfl rfl),
                  ⟨.p rfl (by intro X; rintro _ _ ⟨rfl, rfl⟩; exact op_move rfl),
                  ⟨.w rfl rfl rfl (by rintro _ _ ⟨rfl, rfl⟩; rfl) (by intro X; exact op_fieldAddr (off := 2) rfl tF48_2j),
                  ⟨.w rfl rfl rfl (by rintro _ _ ⟨rfl, rfl⟩; rfl) (by intro X; rintro _ _ ⟨rfl, rfl⟩; exact op_load1 rfl tO3j (Ent.lab (l := 7) rfl (says_cel 2))),
                  ⟨.w rfl rfl rfl (by rintro _ _ ⟨rfl, rfl⟩; rfl) (by intro X; rintro _ _ ⟨rfl, rfl⟩; exact op_neq rfl rfl),
                  ⟨.w rfl rfl rfl (by rintro _ _ ⟨rfl, rfl⟩; rfl) (by intro X; rintro _ _ ⟨rfl, rfl⟩; exact op_move rfl),
                  ⟨.u rfl rfl rfl (by rintro _ _ ⟨rfl, rfl⟩; exact congrArg (offB true) (by first | rfl | (exact congrArg Value.bool (decide_eq_true (by omega))) | (exact congrArg Value.bool (decide_eq_false (by omega))) | (simp; done) | (simp; omega) | (simp [*]; done) : _ = Value.bool false)) ⟨rfl, rfl⟩ rfl rfl,
                  ⟨.u rfl rfl rfl (by rintro _ _ ⟨rfl, rfl⟩; exact congrArg (offB true) (by first | rfl | (exact congrArg Value.bool (decide_eq_true (by omega))) | (exact congrArg Value.bool (decide_eq_false (by omega))) | (simp; done) | (simp; omega) | (simp [*]; done) : _ = Value.bool false)) ⟨rfl, rfl⟩ rfl rfl,
                  ⟨.u rfl rfl rfl (by rintro _ _ ⟨rfl, rfl⟩; exact congrArg (offB true) (by first | rfl | (exact congrArg Value.bool (decide_eq_true (by omega))) | (exact congrArg Value.bool (decide_eq_false (by omega))) | (simp; done) | (simp; omega) | (simp [*]; done) : _ = Value.bool false)) ⟨rfl, rfl⟩ rfl rfl,
                  ⟨.u rfl rfl rfl (by rintro _ _ ⟨rfl, rfl⟩; exact congrArg (offB true) (by first | rfl | (exact congrArg Value.bool (decide_eq_true (by omega))) | (exact congrArg Value.bool (decide_eq_false (by omega))) | (simp; done) | (simp; omega) | (simp [*]; done) : _ = Value.bool false)) ⟨rfl, rfl⟩ rfl rfl,
                  ⟨.u rfl rfl rfl (by rintro _ _ ⟨rfl, rfl⟩; exact congrArg (offB true) (by first | rfl | (exact congrArg Value.bool (decide_eq_true (by omega))) | (exact congrArg Value.bool (decide_eq_false (by omega))) | (simp; done) | (simp; omega) | (simp [*]; done) : _ = Value.bool false)) ⟨rfl, rfl⟩ rfl rfl,
                  ⟨.w rfl rfl rfl (by rintro _ _ ⟨rfl, rfl⟩; rfl) (by intro X; rintro _ _ ⟨rfl, rfl⟩ _ _ ⟨rfl, rfl⟩; exact op_pick_f (by first | rfl | (show some (Value.bool (decide _)) = _; rw [decide_eq_true (by omega)]) | (show some (Value.bool (decide _)) = _; rw [decide_eq_false (by omega)]) | (simp [ev, lk]; done) | (simp [ev, lk]; omega) | (simp [ev, lk, *]; done)) rfl),
                  ⟨.p rfl (by intro X; rintro _ _ ⟨rfl, rfl⟩ _ _ ⟨rfl, rfl⟩; exact op_pick_f rfl rfl),
                  trivial⟩⟩⟩⟩⟩⟩⟩⟩⟩⟩⟩⟩⟩⟩⟩⟩⟩⟩⟩⟩⟩⟩)
                  (fun β β' => ⟨fun _ => by rfl, ⟨fun _ => by rfl, ⟨fun _ => by rfl, ⟨fun _ => by rfl, ⟨fun _ => by rfl, ⟨fun _ => by rfl, ⟨fun _ => by rfl, ⟨fun h => by first | rfl | (simp only [h 6 (by decide)]), ⟨fun h => by first | rfl | (simp only [h 6 (by decide)]), ⟨fun h => by first | rfl | (simp only [h 6 (by decide)]), ⟨fun h => by first | rfl | (simp only [h 6 (by decide)]), ⟨fun _ => by rfl, ⟨fun _ => by rfl, ⟨fun _ => by rfl, ⟨fun _ => by rfl, ⟨fun _ => by rfl, ⟨fun _ => by rfl, ⟨fun _ => by rfl, ⟨fun _ => by rfl, ⟨fun _ => by rfl, ⟨fun _ => by rfl, ⟨fun h => by first | rfl | (simp only [h 6 (by decide)]), trivial⟩⟩⟩⟩⟩⟩⟩⟩⟩⟩⟩⟩⟩⟩⟩⟩⟩⟩⟩⟩⟩⟩) ?_
              intro β
              rintro _ _ ⟨rfl, rfl⟩ _ _ ⟨rfl, rfl⟩ _ _ ⟨rfl, rfl⟩ _ _ ⟨rfl, rfl⟩ _ _ ⟨rfl, rfl⟩ _ _ ⟨rfl, rfl⟩ _ _ ⟨hm96, rfl, rfl⟩ _ _ ⟨rfl, rfl⟩ _ _ ⟨rfl, rfl⟩ _ _ ⟨rfl, rfl⟩ _ _ ⟨rfl, rfl⟩ _ _ ⟨rfl, rfl⟩ _ _ ⟨rfl, rfl⟩ _ _ ⟨rfl, rfl⟩ _ _ ⟨rfl, rfl⟩ _ _ ⟨rfl, rfl⟩ _ _ ⟨rfl, rfl⟩ _ _ ⟨rfl, rfl⟩ _ _ ⟨rfl, rfl⟩ _ _ ⟨rfl, rfl⟩ _ _ ⟨rfl, rfl⟩ _ _ ⟨rfl, rfl⟩
              generalize (β 6).l = m96 at hm96 ⊢
              generalize (β 6).a = a96 at hm96 ⊢
              generalize (β 6).c = c96 at hm96 ⊢
              refine wl_norm (e' := [(2, _), (7, _), (12, _), (13, _), (111, _)]) (.cons rfl (.cons rfl (.cons rfl (.cons rfl (.cons rfl (.nil _)))))) (by dsimp only [cond_false, cond_true, List.nil_append, List.cons_append]) ?_
              refine wl_nil ?_
              refine st_tn ?_
              refine w_cond_f (rfl) ?_
              refine w_skip ?_
              refine st_tn ?_
              refine w_seq ?_
              refine w_seq ?_
              refine w_cutL [(117, .bool (decide (sz < 1 ∨ sz > 1024)))] [2, 7, 12, 13] [3, 21, 7, 25, 8, 31, 10, 37, 14, 96] rfl (fun K' hK => ?_) ?_
              · -- cut r19
                refine w_region ?_
                refine wl_det rfl rfl rfl (op_move rfl) ?_
                refine wl_det rfl rfl rfl (op_lss rfl rfl) ?_
                refine wl_det rfl rfl rfl (op_move rfl) ?_
                refine wl_gsplit (t := 114) rfl (fun hg114 => ?_) (fun hg114 => ?_)
                · -- 114 is True
                  refine wl_unwanted rfl rfl rfl rfl rfl rfl rfl rfl ?_
                  refine wl_unwanted rfl rfl rfl rfl rfl rfl rfl rfl ?_
                  refine wl_det rfl rfl rfl (op_pick_t rfl rfl) ?_
                  refine wl_nil ?_
                  refine st_tn ?_
                  exact cut_done1 [3, 21, 7, 25, 8, 31, 10, 37, 14, 96] hK rfl (by first | (rw [decide_eq_decide]; omega) | (symm; rw [decide_eq_false_iff_not]; omega) | (symm; rw [decide_eq_true_iff]; omega) | (simp; done) | (simp; omega) | (simp [*]; done) | (simp [*]; omega)) (by rfl) rfl rfl
                · -- 114 is False
                  refine wl_wanted_det rfl rfl rfl rfl rfl rfl rfl (op_move rfl) ?_
                  refine wl_wanted_det rfl rfl rfl rfl rfl rfl rfl (op_gtr rfl rfl) ?_
                  refine wl_det rfl rfl rfl (op_pick_f rfl rfl) ?_
                  refine wl_nil ?_
                  refine st_tn ?_
                  exact cut_done1 [3, 21, 7, 25, 8, 31, 10, 37, 14, 96] hK rfl (by first | (rw [decide_eq_decide]; omega) | (symm; rw [decide_eq_false_iff_not]; omega) | (symm; rw [decide_eq_true_iff]; omega) | (simp; done) | (simp; omega) | (simp [*]; done) | (simp [*]; omega)) (by rfl) rfl rfl
              · -- behind r19
                show W _ _ _ _ _ [(117, _), (2, _), (7, _), (12, _), (13, _)] [(3, _), (21, _), (7, _), (25, _), (8, _), (31, _), (10, _), (37, _), (14, _), (96, _)] _
                refine w_cond_d rfl (fun hc117 => ?_) (fun hc117 => ?_)
                · -- c117.t
                  have hM : movE k sz = 2 := by unfold movE; rw [if_pos hc117]
                  refine w_seq ?_
                  refine w_region ?_
                  refine wl_det rfl rfl rfl (op_move rfl) ?_
                  refine wl_det rfl rfl rfl (op_val (v' := .bool true) (by rw [hM]; rfl) (op_eql rfl rfl)) ?_
                  refine wl_det rfl rfl rfl (op_assign rfl) ?_
                  refine wl_nil ?_
                  refine st_tn ?_
                  refine w_ret ?_
                  refine st_tr ?_
                  refine st_ret (vs := [_]) [] Try.results6 ⟨rfl, trivial⟩ rfl ?_
                  refine ⟨_, rfl, ?_⟩
                  exact ⟨rfl, rfl⟩
                · -- c117.f
                  refine w_skip ?_
                  refine st_tn ?_
                  refine w_seq ?_
                  refine w_seq ?_
                  refine w_region ?_
                  refine wl_det rfl rfl rfl (op_fieldAddr (off := 2) rfl tF48_2j) ?_
                  refine wl_det rfl rfl rfl (op_load1 rfl tO3j (Ent.lab (l := 7) rfl (says_cel 2))) ?_
                  refine wl_det rfl rfl rfl (op_eql rfl rfl) ?_
                  refine wl_nil ?_
                  refine st_tn ?_
                  refine w_cond_d rfl (fun hc122 => ?_) (fun hc122 => ?_)
                  · -- c122.t
                    have hM : movE k sz = 12 := by unfold movE; rw [if_neg hc117, if_pos hc122]
                    refine w_seq ?_
                    refine w_region ?_
                    refine wl_det rfl rfl rfl (op_move rfl) ?_
                    refine wl_det rfl rfl rfl (op_val (v' := .bool true) (by rw [hM]; rfl) (op_eql rfl rfl)) ?_
                    refine wl_det rfl rfl rfl (op_assign rfl) ?_
                    refine wl_nil ?_
                    refine st_tn ?_
                    refine w_ret ?_
                    refine st_tr ?_
                    refine st_ret (vs := [_]) [] Try.results6 ⟨rfl, trivial⟩ rfl ?_
                    refine ⟨_, rfl, ?_⟩
                    exact ⟨rfl, rfl⟩
                  · -- c122.f
                    have hM : movE k sz = 0 := by unfold movE; rw [if_neg hc117, if_neg hc122]
                    obtain ⟨w, rfl⟩ := Int.eq_ofNat_of_zero_le (show 0 ≤ sz by omega)
                    refine w_skip ?_
                    refine st_tn ?_
                    refine w_seq ?_
                    refine w_region ?_
                    refine wl_det rfl rfl rfl (op_assign rfl) ?_
                    refine wl_nil ?_
                    refine st_tn ?_
                    refine w_seq ?_
                    refine w_seq ?_
                    refine w_region ?_
                    refine wl_det rfl rfl rfl (op_assign rfl) ?_
                    refine wl_nil ?_
                    refine st_tn ?_
                    refine w_block ?_
                    refine w_emp 16 (slO_nil 3 1) ?_
                    refine w_loopQ (X := List Int × Option Addr × Nat × Nat) (fun z => z.2.2.2 ≤ L.length ∧ z.1 = movL L w z.2.2.2) (fun z => [(16, .slice (z.2.1) (z.1).length (z.2.2.1)), (17, .int .i64 (z.2.2.2))]) (fun z => [(16, slW 3 encZ 1 (.slice (z.2.1) (z.1).length (z.2.2.1)) (z.1))]) (fun z => L.length - z.2.2.2) (([], none, 0, 0)) [(2, _), (7, _), (12, _), (13, _)] [(3, _), (21, _), (7, _), (25, _), (8, _), (31, _), (10, _), (37, _), (14, _), (96, _)] [16, 3, 21, 7, 25, 8, 31, 10, 37, 14, 96] rfl (rfl) (.cons rfl (.cons rfl (.nil _))) (.cons rfl (.cons rfl (.cons rfl (.cons rfl (.nil _))))) (by
                        try dsimp only
                        exact ⟨Nat.zero_le _, rfl⟩) ?_
                    rintro ⟨want, a_want, c_want, i⟩ ⟨hi, hw⟩
                    refine w_norm2 (by dsimp only [List.cons_append, List.nil_append]) (by dsimp only [List.cons_append, List.nil_append]) ?_
                    try dsimp only at hi hw ⊢
                    refine w_seq ?_
                    refine w_seq ?_
                    refine w_region ?_
                    refine wl_det rfl rfl rfl (op_move rfl) ?_
                    refine wl_det rfl rfl rfl (op_fieldAddr (off := 6) rfl tF48_5j) ?_
                    refine wl_det rfl rfl rfl (op_load1 rfl tO25j (Ent.lab (l := 7) rfl (says_cel 6))) ?_
                    refine wl_det rfl rfl rfl (op_lenT rfl tS25j (Sl.ent (Sl.lab 21 rfl (by first | (simp [maxLen]; done) | (unfold maxLen; omega))))) ?_
                    refine wl_det rfl rfl rfl (op_lss rfl rfl) ?_
                    refine wl_nil ?_
                    refine st_tn ?_
                    refine w_cond_d rfl (fun hc129 => ?_) (fun hc129 => ?_)
                    · -- c129.t
                      obtain ⟨x, hx⟩ := getE (l := L) (i := i) (by omega)
                      have hwl : want.length = i := by rw [hw]; simp [movL]
                      refine w_skip ?_
                      refine st_tn ?_
                      refine w_seq ?_
                      refine w_block ?_
                      refine w_seq ?_
                      refine w_region ?_
                      refine wl_det rfl rfl rfl (op_assign rfl) ?_
                      refine wl_nil ?_
                      refine st_tn ?_
                      refine w_seq ?_
                      refine w_seq ?_
                      refine w_region ?_
                      refine wl_det rfl rfl rfl (op_move rfl) ?_
                      refine wl_det rfl rfl rfl (op_move rfl) ?_
                      refine wl_det rfl rfl rfl (op_sub' rfl rfl (by omega)) ?_
                      refine wl_det rfl rfl rfl (op_add' rfl rfl (by omega)) ?_
                      refine wl_det rfl rfl rfl (op_val (v' := .int .i64 ((i + 1 - w : Nat) : Int)) (by congr 1; omega) (op_max rfl rfl)) ?_
                      refine wl_det rfl rfl rfl (op_assign rfl) ?_
                      refine wl_nil ?_
                      refine st_tn ?_
                      refine w_block ?_
                      refine w_loopQ (X := Int × Nat) (fun z => (i + 1 - w ≤ z.2 ∧ z.2 ≤ i + 1) ∧ z.1 = ((L.take z.2).drop (i + 1 - w)).sum ∧ 0 ≤ z.1 ∧ z.1 ≤ z.2 * 255) (fun z => [(18, .int .i64 (z.1)), (19, .int .i64 (z.2))]) (fun _ => []) (fun z => i + 1 - z.2) ((_, i + 1 - w)) [(2, _), (7, _), (12, _), (13, _), (16, _), (17, _)] [(16, _), (3, _), (21, _), (7, _), (25, _), (8, _), (31, _), (10, _), (37, _), (14, _), (96, _)] [16, 3, 21, 7, 25, 8, 31, 10, 37, 14, 96] rfl (rfl) (.cons rfl (.cons rfl (.nil _))) (.cons rfl (.cons rfl (.cons rfl (.cons rfl (.cons rfl (.cons rfl (.nil _))))))) (by
                          try dsimp only
                          refine ⟨⟨Nat.le_refl _, by omega⟩, ?_, by omega, by omega⟩
                          rw [List.drop_of_length_le (by rw [List.length_take]; omega)]; rfl) ?_
                      rintro ⟨n, j⟩ ⟨⟨hj0, hj1⟩, hn, hn0, hn1⟩
                      refine w_norm2 (by dsimp only [List.cons_append, List.nil_append]) (by dsimp only [List.cons_append, List.nil_append]) ?_
                      try dsimp only at hj0 hj1 hn hn0 hn1 ⊢
                      refine w_seq ?_
                      refine w_seq ?_
                      refine w_region ?_
                      refine wl_det rfl rfl rfl (op_move rfl) ?_
                      refine wl_det rfl rfl rfl (op_move rfl) ?_
                      refine wl_det rfl rfl rfl (op_leq rfl rfl) ?_
                      refine wl_nil ?_
                      refine st_tn ?_
                      refine w_cond_d rfl (fun hc139 => ?_) (fun hc139 => ?_)
                      · -- c139.t
                        obtain ⟨z, hz⟩ := getE (l := L) (i := j) (by omega)
                        have hzb := hv8 z (List.mem_of_getElem? hz)
                        refine w_skip ?_
                        refine st_tn ?_
                        refine w_seq ?_
                        refine w_block ?_
                        refine w_region ?_
                        refine wl_det rfl rfl rfl (op_move rfl) ?_
                        refine wl_det rfl rfl rfl (op_fieldAddr (off := 6) rfl tF48_5j) ?_
                        refine wl_det rfl rfl rfl (op_load1 rfl tO25j (Ent.lab (l := 7) rfl (says_cel 6))) ?_
                        refine wl_det rfl rfl rfl (op_move rfl) ?_
                        refine wl_det rfl rfl rfl (op_idx rfl rfl tS25j (Sl.ent (Sl.lab 21 rfl (by first | (simp [maxLen]; done) | (unfold maxLen; omega)))) (by omega)) ?_
                        refine wl_det rfl rfl rfl (op_ldx rfl tO3j (Sl.lab 21 rfl (by first | (simp [maxLen]; done) | (unfold maxLen; omega))) (by assumption) (by rfl)) ?_
                        refine wl_det rfl rfl rfl (op_add' rfl rfl (by omega)) ?_
                        refine wl_det rfl rfl rfl (op_assign rfl) ?_
                        refine wl_nil ?_
                        refine st_bn ?_
                        refine st_tn ?_
                        refine w_region ?_
                        refine wl_det rfl rfl rfl (op_move rfl) ?_
                        refine wl_det rfl rfl rfl (op_add' rfl rfl (by omega)) ?_
                        refine wl_det rfl rfl rfl (op_assign rfl) ?_
                        refine wl_nil ?_
                        refine st_roundQ (x := (n, j)) ((_, j + 1)) [16, 3, 21, 7, 25, 8, 31, 10, 37, 14, 96] rfl (rfl) (.cons rfl (.cons rfl (.nil _))) (.cons rfl (.cons rfl (.cons rfl (.cons rfl (.cons rfl (.cons rfl (.nil _))))))) (by
                            try dsimp only
                            refine ⟨⟨by omega, by omega⟩, ?_, by omega, by omega⟩
                            rw [take_snoc hz, List.drop_append_of_le_length (by rw [List.length_take]; omega), List.sum_append, ← hn]; simp) (by
                            try dsimp only
                            omega) 
                      · -- c139.f
                        obtain rfl : j = i + 1 := by omega
                        have hnew : want ++ [n] = movL L w (i + 1) := by
                          rw [movL_succ, ← hw, mov_wsum (by omega) _ (by omega), hn]; rfl
                        refine w_exit ?_
                        refine st_te ?_
                        refine st_te ?_
                        refine st_be ?_
                        refine st_tn ?_
                        refine w_region ?_
                        refine wl_det rfl rfl rfl (op_move rfl) ?_
                        refine wl_det rfl rfl rfl (op_move rfl) ?_
                        refine wl_op [] rfl rfl rfl rfl (op_buildSlice (enc := encZ) (l := [_]) (lab := 151) tL25_1j rfl rfl (fun _ => rfl) rfl) ?_
                        rintro _ _ ⟨a151, c151, rfl, rfl⟩
                        refine wl_op [16] rfl rfl rfl rfl (op_append (lab := 16) (lab' := 152) rfl rfl tP25j enc1Z (Sl.lab 151 rfl (by simp [maxLen])) (by first | omega | (simp; done) | (simp; omega) | (simp [*]; omega)) (by first | omega | (simp; done) | (simp; omega) | (simp [*]; omega))) ?_
                        rintro _ _ ⟨a152, c152, rfl, rfl⟩
                        refine wl_det rfl rfl rfl (op_assign rfl) ?_
                        refine wl_nil ?_
                        refine st_bn ?_
                        refine st_tn ?_
                        refine w_region ?_
                        refine wl_det rfl rfl rfl (op_move rfl) ?_
                        refine wl_det rfl rfl rfl (op_add' rfl rfl (by omega)) ?_
                        refine wl_det rfl rfl rfl (op_assign rfl) ?_
                        refine wl_nil ?_
                        refine st_roundQ (x := (want, a_want, c_want, i)) ((_, _, _, i + 1)) [152, 3, 21, 7, 25, 8, 31, 10, 37, 14, 96] rfl (rfl) (.cons rfl (.cons rfl (.nil _))) (.cons rfl (.cons rfl (.cons rfl (.cons rfl (.nil _))))) (by
                            try dsimp only
                            exact ⟨by omega, hnew⟩) (by
                            try dsimp only
                            omega) 
                    · -- c129.f
                      have hwl : want.length = i := by rw [hw]; simp [movL]
                      refine w_exit ?_
                      refine st_te ?_
                      refine st_te ?_
                      refine st_be ?_
                      refine st_tn ?_
                      refine w_seq ?_
                      refine w_region ?_
                      refine wl_det rfl rfl rfl (op_move rfl) ?_
                      refine wl_det rfl rfl rfl (op_val (v' := .bool true) (by rw [hM]; rfl) (op_eql rfl rfl)) ?_
                      refine wl_det rfl rfl rfl (op_move rfl) ?_
                      refine wl_wanted_det rfl rfl rfl rfl rfl rfl rfl (op_move rfl) ?_
                      refine wl_wanted_det rfl rfl rfl rfl rfl rfl rfl (op_move rfl) ?_
                      refine wl_wanted_det rfl rfl rfl rfl rfl rfl rfl (op_val (v' := .bool true) (by 
                            refine congrArg Value.bool (decide_eq_true ?_)
                            rw [hm37, hM, if_pos rfl, hw, show i = L.length by omega]) (op_fn Try.func22 rfl rfl rfl (ints_any (Sl.lab 37 rfl (by first | (simp [maxLen]; done) | (unfold maxLen; omega))) (Sl.lab 16 rfl (by first | (simp [maxLen]; done) | (unfold maxLen; omega)))))) ?_
                      refine wl_det rfl rfl rfl (op_pick_t rfl rfl) ?_
                      refine wl_det rfl rfl rfl (op_assign rfl) ?_
                      refine wl_nil ?_
                      refine st_tn ?_
                      refine w_ret ?_
                      refine st_ret (vs := [_]) [] Try.results6 ⟨rfl, trivial⟩ rfl ?_
                      refine ⟨_, rfl, ?_⟩
                      exact ⟨rfl, rfl⟩
    · -- c52.f
      refine w_skip ?_
      refine st_tn ?_
      refine w_seq ?_
      refine w_seq ?_
      refine w_cutL [(81, .bool false)] [2, 7, 10, 11, 12, 13] [3, 21, 7, 25, 8, 31, 10, 37, 14] rfl (fun K' hK => ?_) ?_
      · -- cut r12
        by_cases hfit : chkE k (fr + y) L = 0 ∧ (y ≥ 0 - fr ∧ y ≤ 1048576)
        · -- hfit+
          have hS := shift_fit hk (by omega) hv hfr hfit.2 hfit.1
          exact absurd hfit.2 hc52
        · -- hfit-
          have hS : shiftR k fr L y = zeroR 32 := by
            by_cases hq : y ≥ 0 - fr ∧ y ≤ 1048576
            · exact shift_no2 hk (by omega) hv (fun e => hfit ⟨e, hq⟩)
            · exact shift_no1 hfr hq
          refine w_region ?_
          refine wl_det rfl rfl rfl (op_val (v' := .bool false) (by first | exact congrArg Value.bool (decide_eq_false hc52) | exact congrArg Value.bool (decide_eq_false fun e => hfit ⟨e, hc52⟩)) (op_move rfl)) ?_
          refine wl_det rfl rfl rfl (op_move rfl) ?_
          refine wl_det rfl rfl rfl (op_val (v' := .bool false) (by rw [hS]; rfl) (op_eql rfl rfl)) ?_
          refine wl_det rfl rfl rfl (op_val (v' := .bool false) (by rfl) (op_neB rfl rfl Try.underlying4)) ?_
          refine wl_det rfl rfl rfl (op_move rfl) ?_
          refine wl_wanted_det rfl rfl rfl rfl rfl rfl rfl (op_val (v' := .bool false) (by first | exact congrArg Value.bool (decide_eq_false hc52) | exact congrArg Value.bool (decide_eq_false fun e => hfit ⟨e, hc52⟩)) (op_move rfl)) ?_
          refine wl_wanted_det rfl rfl rfl rfl rfl rfl rfl (op_not_f rfl) ?_
          refine wl_wanted_det rfl rfl rfl rfl rfl rfl rfl (op_move rfl) ?_
          refine wl_wanted_det rfl rfl rfl rfl rfl rfl rfl (op_move rfl) ?_
          refine wl_wanted_det rfl rfl rfl rfl rfl rfl rfl (op_val (v' := .bool false) (by rw [hS]; rfl) (op_neq rfl rfl)) ?_
          refine wl_wanted_det rfl rfl rfl rfl rfl rfl rfl (op_pick_t rfl rfl) ?_
          refine wl_det rfl rfl rfl (op_pick_f rfl rfl) ?_
          refine wl_det rfl rfl rfl (op_move rfl) ?_
          refine wl_wanted_det rfl rfl rfl rfl rfl rfl rfl (op_val (v' := .bool false) (by first | exact congrArg Value.bool (decide_eq_false hc52) | exact congrArg Value.bool (decide_eq_false fun e => hfit ⟨e, hc52⟩)) (op_move rfl)) ?_
          refine wl_wanted_det rfl rfl rfl rfl rfl rfl rfl (op_move rfl) ?_
          refine wl_unwanted rfl rfl rfl rfl rfl rfl rfl rfl ?_
          refine wl_unwanted rfl rfl rfl rfl rfl rfl rfl rfl ?_
          refine wl_unwanted rfl rfl rfl rfl rfl rfl rfl rfl ?_
          refine wl_unwanted rfl rfl rfl rfl rfl rfl rfl rfl ?_
          refine wl_wanted_det rfl rfl rfl rfl rfl rfl rfl (op_pick_f rfl rfl) ?_
          refine wl_det rfl rfl rfl (op_pick_f rfl rfl) ?_
          refine wl_nil ?_
          refine st_tn ?_
          exact cut_done (L' := [3, 21, 7, 25, 8, 31, 10, 37, 14]) hK (by intro q hq; simp only [List.mem_cons, List.not_mem_nil, or_false] at hq; subst hq; all_goals first | rfl | (show some _ = some _; simp [*]; done)) (by rfl) rfl rfl
      · -- behind r12
        show W _ _ _ _ _ [(81, _), (2, _), (7, _), (10, _), (11, _), (12, _), (13, _)] [(3, _), (21, _), (7, _), (25, _), (8, _), (31, _), (10, _), (37, _), (14, _)] _
        refine w_cond_f (rfl) ?_
        refine w_skip ?_
        refine st_tn ?_
        refine w_seq ?_
        refine w_seq ?_
        refine w_cutL [(87, .bool (decide (sz < 1 ∨ sz > 1048576)))] [2, 7, 10, 11, 12, 13] [3, 21, 7, 25, 8, 31, 10, 37, 14] rfl (fun K' hK => ?_) ?_
        · -- cut r14
          refine w_region ?_
          refine wl_det rfl rfl rfl (op_move rfl) ?_
          refine wl_det rfl rfl rfl (op_lss rfl rfl) ?_
          refine wl_det rfl rfl rfl (op_move rfl) ?_
          refine wl_gsplit (t := 84) rfl (fun hg84 => ?_) (fun hg84 => ?_)
          · -- 84 is True
            refine wl_unwanted rfl rfl rfl rfl rfl rfl rfl rfl ?_
            refine wl_unwanted rfl rfl rfl rfl rfl rfl rfl rfl ?_
            refine wl_det rfl rfl rfl (op_pick_t rfl rfl) ?_
            refine wl_nil ?_
            refine st_tn ?_
            exact cut_done1 [3, 21, 7, 25, 8, 31, 10, 37, 14] hK rfl (by first | (rw [decide_eq_decide]; omega) | (symm; rw [decide_eq_false_iff_not]; omega) | (symm; rw [decide_eq_true_iff]; omega) | (simp; done) | (simp; omega) | (simp [*]; done) | (simp [*]; omega)) (by rfl) rfl rfl
          · -- 84 is False
            refine wl_wanted_det rfl rfl rfl rfl rfl rfl rfl (op_move rfl) ?_
            refine wl_wanted_det rfl rfl rfl rfl rfl rfl rfl (op_gtr rfl rfl) ?_
            refine wl_det rfl rfl rfl (op_pick_f rfl rfl) ?_
            refine wl_nil ?_
            refine st_tn ?_
            exact cut_done1 [3, 21, 7, 25, 8, 31, 10, 37, 14] hK rfl (by first | (rw [decide_eq_decide]; omega) | (symm; rw [decide_eq_false_iff_not]; omega) | (symm; rw [decide_eq_true_iff]; omega) | (simp; done) | (simp; omega) | (simp [*]; done) | (simp [*]; omega)) (by rfl) rfl rfl
        · -- behind r14
          show W _ _ _ _ _ [(87, _), (2, _), (7, _), (10, _), (11, _), (12, _), (13, _)] [(3, _), (21, _), (7, _), (25, _), (8, _), (31, _), (10, _), (37, _), (14, _)] _
          refine w_cond_d rfl (fun hc87 => ?_) (fun hc87 => ?_)
          · -- c87.t
            have hC : coarsenR k fr L sz = zeroR 2 := by unfold coarsenR; rw [if_pos hc87]
            refine w_seq ?_
            refine w_region ?_
            refine wl_det rfl rfl rfl (op_move rfl) ?_
            refine wl_det rfl rfl rfl (op_val (v' := .bool false) (by rw [hC]; rfl) (op_neq rfl rfl)) ?_
            refine wl_nil ?_
            refine st_tn ?_
            refine w_cond_f (rfl) ?_
            refine w_skip ?_
            refine st_tn ?_
            refine w_seq ?_
            refine w_seq ?_
            refine w_cutL [(117, .bool (decide (sz < 1 ∨ sz > 1024)))] [2, 7, 12, 13] [3, 21, 7, 25, 8, 31, 10, 37, 14] rfl (fun K' hK => ?_) ?_
            · -- cut r19
              refine w_region ?_
              refine wl_det rfl rfl rfl (op_move rfl) ?_
              refine wl_det rfl rfl rfl (op_lss rfl rfl) ?_
              refine wl_det rfl rfl rfl (op_move rfl) ?_
              refine wl_gsplit (t := 114) rfl (fun hg114 => ?_) (fun hg114 => ?_)
              · -- 114 is True
                refine wl_unwanted rfl rfl rfl rfl rfl rfl rfl rfl ?_
                refine wl_unwanted rfl rfl rfl rfl rfl rfl rfl rfl ?_
                refine wl_det rfl rfl rfl (op_pick_t rfl rfl) ?_
                refine wl_nil ?_
                refine st_tn ?_
                exact cut_done1 [3, 21, 7, 25, 8, 31, 10, 37, 14] hK rfl (by first | (rw [decide_eq_decide]; omega) | (symm; rw [decide_eq_false_iff_not]; omega) | (symm; rw [decide_eq_true_iff]; omega) | (simp; done) | (simp; omega) | (simp [*]; done) | (simp [*]; omega)) (by rfl) rfl rfl
              · -- 114 is False
                refine wl_wanted_det rfl rfl rfl rfl rfl rfl rfl (op_move rfl) ?_
                refine wl_wanted_det rfl rfl rfl rfl rfl rfl rfl (op_gtr rfl rfl) ?_
                refine wl_det rfl rfl rfl (op_pick_f rfl rfl) ?_
                refine wl_nil ?_
                refine st_tn ?_
                exact cut_done1 [3, 21, 7, 25, 8, 31, 10, 37, 14] hK rfl (by first | (rw [decide_eq_decide]; omega) | (symm; rw [decide_eq_false_iff_not]; omega) | (symm; rw [decide_eq_true_iff]; omega) | (simp; done) | (simp; omega) | (simp [*]; done) | (simp [*]; omega)) (by rfl) rfl rfl
            · -- behind r19
              show W _ _ _ _ _ [(117, _), (2, _), (7, _), (12, _), (13, _)] [(3, _), (21, _), (7, _), (25, _), (8, _), (31, _), (10, _), (37, _), (14, _)] _
              refine w_cond_d rfl (fun hc117 => ?_) (fun hc117 => ?_)
              · -- c117.t
                have hM : movE k sz = 2 := by unfold movE; rw [if_pos hc117]
                refine w_seq ?_
                refine w_region ?_
                refine wl_det rfl rfl rfl (op_move rfl) ?_
                refine wl_det rfl rfl rfl (op_val (v' := .bool true) (by rw [hM]; rfl) (op_eql rfl rfl)) ?_
                refine wl_det rfl rfl rfl (op_assign rfl) ?_
                refine wl_nil ?_
                refine st_tn ?_
                refine w_ret ?_
                refine st_tr ?_
                refine st_ret (vs := [_]) [] Try.results6 ⟨rfl, trivial⟩ rfl ?_
                refine ⟨_, rfl, ?_⟩
                exact ⟨rfl, rfl⟩
              · -- c117.f
                refine w_skip ?_
                refine st_tn ?_
                refine w_seq ?_
                refine w_seq ?_
                refine w_region ?_
                refine wl_det rfl rfl rfl (op_fieldAddr (off := 2) rfl tF48_2j) ?_
                refine wl_det rfl rfl rfl (op_load1 rfl tO3j (Ent.lab (l := 7) rfl (says_cel 2))) ?_
                refine wl_det rfl rfl rfl (op_eql rfl rfl) ?_
                refine wl_nil ?_
                refine st_tn ?_
                refine w_cond_d rfl (fun hc122 => ?_) (fun hc122 => ?_)
                · -- c122.t
                  have hM : movE k sz = 12 := by unfold movE; rw [if_neg hc117, if_pos hc122]
                  refine w_seq ?_
                  refine w_region ?_
                  refine wl_det rfl rfl rfl (op_move rfl) ?_
                  refine wl_det rfl rfl rfl (op_val (v' := .bool true) (by rw [hM]; rfl) (op_eql rfl rfl)) ?_
                  refine wl_det rfl rfl rfl (op_assign rfl) ?_
                  refine wl_nil ?_
                  refine st_tn ?_
                  refine w_ret ?_
                  refine st_tr ?_
                  refine st_ret (vs := [_]) [] Try.results6 ⟨rfl, trivial⟩ rfl ?_
                  refine ⟨_, rfl, ?_⟩
                  exact ⟨rfl, rfl⟩
                · -- c122.f
                  have hM : movE k sz = 0 := by unfold movE; rw [if_neg hc117, if_neg hc122]
                  obtain ⟨w, rfl⟩ := Int.eq_ofNat_of_zero_le (show 0 ≤ sz by omega)
                  refine w_skip ?_
                  refine st_tn ?_
                  refine w_seq ?_
                  refine w_region ?_
                  refine wl_det rfl rfl rfl (op_assign rfl) ?_
                  refine wl_nil ?_
                  refine st_tn ?_
                  refine w_seq ?_
                  refine w_seq ?_
                  refine w_region ?_
                  refine wl_det rfl rfl rfl (op_assign rfl) ?_
                  refine wl_nil ?_
                  refine st_tn ?_
                  refine w_block ?_
                  refine w_emp 16 (slO_nil 3 1) ?_
                  refine w_loopQ (X := List Int × Option Addr × Nat × Nat) (fun z => z.2.2.2 ≤ L.length ∧ z.1 = movL L w z.2.2.2) (fun z => [(16, .slice (z.2.1) (z.1).length (z.2.2.1)), (17, .int .i64 (z.2.2.2))]) (fun z => [(16, slW 3 encZ 1 (.slice (z.2.1) (z.1).length (z.2.2.1)) (z.1))]) (fun z => L.length - z.2.2.2) (([], none, 0, 0)) [(2, _), (7, _), (12, _), (13, _)] [(3, _), (21, _), (7, _), (25, _), (8, _), (31, _), (10, _), (37, _), (14, _)] [16, 3, 21, 7, 25, 8, 31, 10, 37, 14] rfl (rfl) (.cons rfl (.cons rfl (.nil _))) (.cons rfl (.cons rfl (.cons rfl (.cons rfl (.nil _))))) (by
                      try dsimp only
                      exact ⟨Nat.zero_le _, rfl⟩) ?_
                  rintro ⟨want, a_want, c_want, i⟩ ⟨hi, hw⟩
                  refine w_norm2 (by dsimp only [List.cons_append, List.nil_append]) (by dsimp only [List.cons_append, List.nil_append]) ?_
                  try dsimp only at hi hw ⊢
                  refine w_seq ?_
                  refine w_seq ?_
                  refine w_region ?_
                  refine wl_det rfl rfl rfl (op_move rfl) ?_
                  refine wl_det rfl rfl rfl (op_fieldAddr (off := 6) rfl tF48_5j) ?_
                  refine wl_det rfl rfl rfl (op_load1 rfl tO25j (Ent.lab (l := 7) rfl (says_cel 6))) ?_
                  refine wl_det rfl rfl rfl (op_lenT rfl tS25j (Sl.ent (Sl.lab 21 rfl (by first | (simp [maxLen]; done) | (unfold maxLen; omega))))) ?_
                  refine wl_det rfl rfl rfl (op_lss rfl rfl) ?_
                  refine wl_nil ?_
                  refine st_tn ?_
                  refine w_cond_d rfl (fun hc129 => ?_) (fun hc129 => ?_)
                  · -- c129.t
                    obtain ⟨x, hx⟩ := getE (l := L) (i := i) (by omega)
                    have hwl : want.length = i := by rw [hw]; simp [movL]
                    refine w_skip ?_
                    refine st_tn ?_
                    refine w_seq ?_
                    refine w_block ?_
                    refine w_seq ?_
                    refine w_region ?_
                    refine wl_det rfl rfl rfl (op_assign rfl) ?_
                    refine wl_nil ?_
                    refine st_tn ?_
                    refine w_seq ?_
                    refine w_seq ?_
                    refine w_region ?_
                    refine wl_det rfl rfl rfl (op_move rfl) ?_
                    refine wl_det rfl rfl rfl (op_move rfl) ?_
                    refine wl_det rfl rfl rfl (op_sub' rfl rfl (by omega)) ?_
                    refine wl_det rfl rfl rfl (op_add' rfl rfl (by omega)) ?_
                    refine wl_det rfl rfl rfl (op_val (v' := .int .i64 ((i + 1 - w : Nat) : Int)) (by congr 1; omega) (op_max rfl rfl)) ?_
                    refine wl_det rfl rfl rfl (op_assign rfl) ?_
                    refine wl_nil ?_
                    refine st_tn ?_
                    refine w_block ?_
                    refine w_loopQ (X := Int × Nat) (fun z => (i + 1 - w ≤ z.2 ∧ z.2 ≤ i + 1) ∧ z.1 = ((L.take z.2).drop (i + 1 - w)).sum ∧ 0 ≤ z.1 ∧ z.1 ≤ z.2 * 255) (fun z => [(18, .int .i64 (z.1)), (19, .int .i64 (z.2))]) (fun _ => []) (fun z => i + 1 - z.2) ((_, i + 1 - w)) [(2, _), (7, _), (12, _), (13, _), (16, _), (17, _)] [(16, _), (3, _), (21, _), (7, _), (25, _), (8, _), (31, _), (10, _), (37, _), (14, _)] [16, 3, 21, 7, 25, 8, 31, 10, 37, 14] rfl (rfl) (.cons rfl (.cons rfl (.nil _))) (.cons rfl (.cons rfl (.cons rfl (.cons rfl (.cons rfl (.cons rfl (.nil _))))))) (by
                        try dsimp only
                        refine ⟨⟨Nat.le_refl _, by omega⟩, ?_, by omega, by omega⟩
                        rw [List.drop_of_length_le (by rw [List.length_take]; omega)]; rfl) ?_
                    rintro ⟨n, j⟩ ⟨⟨hj0, hj1⟩, hn, hn0, hn1⟩
                    refine w_norm2 (by dsimp only [List.cons_append, List.nil_append]) (by dsimp only [List.cons_append, List.nil_append]) ?_
                    try dsimp only at hj0 hj1 hn hn0 hn1 ⊢
                    refine w_seq ?_
                    refine w_seq ?_
                    refine w_region ?_
                    refine wl_det rfl rfl rfl (op_move rfl) ?_
                    refine wl_det rfl rfl rfl (op_move rfl) ?_
                    refine wl_det rfl rfl rfl (op_leq rfl rfl) ?_
                    refine wl_nil ?_
                    refine st_tn ?_
                    refine w_cond_d rfl (fun hc139 => ?_) (fun hc139 => ?_)
                    · -- c139.t
                      obtain ⟨z, hz⟩ := getE (l := L) (i := j) (by omega)
                      have hzb := hv8 z (List.mem_of_getElem? hz)
                      refine w_skip ?_
                      refine st_tn ?_
                      refine w_seq ?_
                      refine w_block ?_
                      refine w_region ?_
                      refine wl_det rfl rfl rfl (op_move rfl) ?_
                      refine wl_det rfl rfl rfl (op_fieldAddr (off := 6) rfl tF48_5j) ?_
                      refine wl_det rfl rfl rfl (op_load1 rfl tO25j (Ent.lab (l := 7) rfl (says_cel 6))) ?_
                      refine wl_det rfl rfl rfl (op_move rfl) ?_
                      refine wl_det rfl rfl rfl (op_idx rfl rfl tS25j (Sl.ent (Sl.lab 21 rfl (by first | (simp [maxLen]; done) | (unfold maxLen; omega)))) (by omega)) ?_
                      refine wl_det rfl rfl rfl (op_ldx rfl tO3j (Sl.lab 21 rfl (by first | (simp [maxLen]; done) | (unfold maxLen; omega))) (by assumption) (by rfl)) ?_
                      refine wl_det rfl rfl rfl (op_add' rfl rfl (by omega)) ?_
                      refine wl_det rfl rfl rfl (op_assign rfl) ?_
                      refine wl_nil ?_
                      refine st_bn ?_
                      refine st_tn ?_
                      refine w_region ?_
                      refine wl_det rfl rfl rfl (op_move rfl) ?_
                      refine wl_det rfl rfl rfl (op_add' rfl rfl (by omega)) ?_
                      refine wl_det rfl rfl rfl (op_assign rfl) ?_
                      refine wl_nil ?_
                      refine st_roundQ (x := (n, j)) ((_, j + 1)) [16, 3, 21, 7, 25, 8, 31, 10, 37, 14] rfl (rfl) (.cons rfl (.cons rfl (.nil _))) (.cons rfl (.cons rfl (.cons rfl (.cons rfl (.cons rfl (.cons rfl (.nil _))))))) (by
                          try dsimp only
                          refine ⟨⟨by omega, by omega⟩, ?_, by omega, by omega⟩
                          rw [take_snoc hz, List.drop_append_of_le_length (by rw [List.length_take]; omega), List.sum_append, ← hn]; simp) (by
                          try dsimp only
                          omega) 
                    · -- c139.f
                      obtain rfl : j = i + 1 := by omega
                      have hnew : want ++ [n] = movL L w (i + 1) := by
                        rw [movL_succ, ← hw, mov_wsum (by omega) _ (by omega), hn]; rfl
                      refine w_exit ?_
                      refine st_te ?_
                      refine st_te ?_
                      refine st_be ?_
                      refine st_tn ?_
                      refine w_region ?_
                      refine wl_det rfl rfl rfl (op_move rfl) ?_
                      refine wl_det rfl rfl rfl (op_move rfl) ?_
                      refine wl_op [] rfl rfl rfl rfl (op_buildSlice (enc := encZ) (l := [_]) (lab := 151) tL25_1j rfl rfl (fun _ => rfl) rfl) ?_
                      rintro _ _ ⟨a151, c151, rfl, rfl⟩
                      refine wl_op [16] rfl rfl rfl rfl (op_append (lab := 16) (lab' := 152) rfl rfl tP25j enc1Z (Sl.lab 151 rfl (by simp [maxLen])) (by first | omega | (simp; done) | (simp; omega) | (simp [*]; omega)) (by first | omega | (simp; done) | (simp; omega) | (simp [*]; omega))) ?_
                      rintro _ _ ⟨a152, c152, rfl, rfl⟩
                      refine wl_det rfl rfl rfl (op_assign rfl) ?_
                      refine wl_nil ?_
                      refine st_bn ?_
                      refine st_tn ?_
                      refine w_region ?_
                      refine wl_det rfl rfl rfl (op_move rfl) ?_
                      refine wl_det rfl rfl rfl (op_add' rfl rfl (by omega)) ?_
                      refine wl_det rfl rfl rfl (op_assign rfl) ?_
                      refine wl_nil ?_
                      refine st_roundQ (x := (want, a_want, c_want, i)) ((_, _, _, i + 1)) [152, 3, 21, 7, 25, 8, 31, 10, 37, 14] rfl (rfl) (.cons rfl (.cons rfl (.nil _))) (.cons rfl (.cons rfl (.cons rfl (.cons rfl (.nil _))))) (by
                          try dsimp only
                          exact ⟨by omega, hnew⟩) (by
                          try dsimp only
                          omega) 
                  · -- c129.f
                    have hwl : want.length = i := by rw [hw]; simp [movL]
                    refine w_exit ?_
                    refine st_te ?_
                    refine st_te ?_
                    refine st_be ?_
                    refine st_tn ?_
                    refine w_seq ?_
                    refine w_region ?_
                    refine wl_det rfl rfl rfl (op_move rfl) ?_
                    refine wl_det rfl rfl rfl (op_val (v' := .bool true) (by rw [hM]; rfl) (op_eql rfl rfl)) ?_
                    refine wl_det rfl rfl rfl (op_move rfl) ?_
                    refine wl_wanted_det rfl rfl rfl rfl rfl rfl rfl (op_move rfl) ?_
                    refine wl_wanted_det rfl rfl rfl rfl rfl rfl rfl (op_move rfl) ?_
                    refine wl_wanted_det rfl rfl rfl rfl rfl rfl rfl (op_val (v' := .bool true) (by 
                          refine congrArg Value.bool (decide_eq_true ?_)
                          rw [hm37, hM, if_pos rfl, hw, show i = L.length by omega]) (op_fn Try.func22 rfl rfl rfl (ints_any (Sl.lab 37 rfl (by first | (simp [maxLen]; done) | (unfold maxLen; omega))) (Sl.lab 16 rfl (by first | (simp [maxLen]; done) | (unfold maxLen; omega)))))) ?_
                    refine wl_det rfl rfl rfl (op_pick_t rfl rfl) ?_
                    refine wl_det rfl rfl rfl (op_assign rfl) ?_
                    refine wl_nil ?_
                    refine st_tn ?_
                    refine w_ret ?_
                    refine st_ret (vs := [_]) [] Try.results6 ⟨rfl, trivial⟩ rfl ?_
                    refine ⟨_, rfl, ?_⟩
                    exact ⟨rfl, rfl⟩
          · -- c87.f
            have hC := coarsen_fit (k := k) (fr := fr) (by omega) hv8 hc87
            have hvC : ∀ x ∈ (coarsenR k fr L sz).vals, 0 ≤ x ∧ x ≤ 1099511627776 := by rw [hC]; exact coarse_bd255 (by omega) hv8
            refine w_seq ?_
            by_cases hlat : k.met ≠ 3
            · -- hlat True
              refine w_drawW (fun β => [⟨90, [], [], [], noW (_), false, [], []⟩, ⟨91, [0], [], [], noW (_), false, [], []⟩, ⟨92, [1], [], [], noW (_), false, [], []⟩, ⟨93, [], [], [], noW (_), false, [], []⟩, ⟨94, [], [], [], noW (_), false, [], []⟩, ⟨95, [], [], [], noW (_), false, [], []⟩, ⟨96, [4, 5], [], [], fun w => AndW _ (DetW _ _), false, [], []⟩, ⟨97, [3, 6], [], [], noW (_), false, [], []⟩, ⟨98, [7], [], [], noW (_), false, [], []⟩, ⟨99, [2, 8], [], [], noW (_), false, [], []⟩, ⟨100, [9], [], [], noW (_), false, [], []⟩, ⟨101, [], [], [], noW (_), false, [], []⟩, ⟨102, [11], [], [], noW (_), false, [], []⟩, ⟨103, [12], [], [], noW (_), false, [], []⟩, ⟨104, [13], [], [], noW (_), false, [], []⟩, ⟨105, [], [], [], noW (_), false, [], []⟩, ⟨106, [15], [], [], noW (_), false, [], []⟩, ⟨107, [], [], [], noW (_), false, [], []⟩, ⟨108, [17], [], [], noW (_), false, [], []⟩, ⟨109, [16, 18], [], [], noW (_), false, [], []⟩, ⟨110, [14, 19], [], [], noW (_), false, [], []⟩, ⟨111, [10, 20], [], [], noW (_), false, [], []⟩]) [] [11, 10, 7, 2] [⟨90, [], [], false, [], []⟩, ⟨91, [0], [], false, [], []⟩, ⟨92, [1], [], false, [], []⟩, ⟨93, [], [], false, [], []⟩, ⟨94, [], [], false, [], []⟩, ⟨95, [], [], false, [], []⟩, ⟨96, [4, 5], [], false, [], []⟩, ⟨97, [3, 6], [], false, [], []⟩, ⟨98, [7], [], false, [], []⟩, ⟨99, [2, 8], [], false, [], []⟩, ⟨100, [9], [], false, [], []⟩, ⟨101, [], [], false, [], []⟩, ⟨102, [11], [], false, [], []⟩, ⟨103, [12], [], false, [], []⟩, ⟨104, [13], [], false, [], []⟩, ⟨105, [], [], false, [], []⟩, ⟨106, [15], [], false, [], []⟩, ⟨107, [], [], false, [], []⟩, ⟨108, [17], [], false, [], []⟩, ⟨109, [16, 18], [], false, [], []⟩, ⟨110, [14, 19], [], false, [], []⟩, ⟨111, [10, 20], [], false, [], []⟩] [[], [], [], [], [], [], [], [6], [6], [6], [6], [], [], [], [], [], [], [], [], [], [], [6]] [[], [], [], [], [], [], [], [], [], [], [], [], [], [], [], [], [], [], [], [], [], []] tMixj (fun _ => by rfl) (fun _ => by rfl) (by kernel_rfl) (by kernel_rfl) (by rfl) (by rfl)
                  (fun β => ⟨.p rfl (by intro X; exact op_move rfl),
                  ⟨.p rfl (by intro X; rintro _ _ ⟨rfl, rfl⟩; exact op_val (v' := .bool false) (by rw [hC]; rfl) (op_neq rfl rfl)),
                  ⟨.p rfl (by intro X; rintro _ _ ⟨rfl, rfl⟩; exact op_move rfl),
                  ⟨.w rfl rfl rfl (by rintro _ _ ⟨rfl, rfl⟩; rfl) (by intro X; exact op_loadA rfl tA48j (Ent.lab (l := 10) rfl (says_cel 0)) (Nat.le_of_ble_eq_true rfl)),
                  ⟨.w rfl rfl rfl (by rintro _ _ ⟨rfl, rfl⟩; rfl) (by intro X; exact op_loadA rfl tA48j (Ent.lab (l := 7) rfl (says_cel 0)) (Nat.le_of_ble_eq_true rfl)),
                  ⟨.w rfl rfl rfl (by rintro _ _ ⟨rfl, rfl⟩; rfl) (by intro X; exact op_move rfl),
                  ⟨.wx rfl rfl rfl (by rintro _ _ ⟨rfl, rfl⟩; rfl) (by intro X; rintro _ _ ⟨rfl, rfl⟩ _ _ ⟨rfl, rfl⟩; refine OpT.mono (op_fn Try.func28 rfl rfl rfl (lcoarsen_any 96 _ _ _ (Sl.lab 21 rfl (by first | (simp [maxLen]; done) | (unfold maxLen; omega))) (by omega) (by omega) (by assumption) (by omega))) ?_; rintro _ _ ⟨m96, a96, c96, hm96, rfl, rfl⟩; obtain ⟨w, rfl, rfl, rfl⟩ : ∃ w : Wt, w.l = m96 ∧ w.a = a96 ∧ w.c = c96 := ⟨{ l := m96, a := a96, c := c96 }, rfl, rfl, rfl⟩; exact ⟨w, hm96, rfl, rfl⟩),
                  ⟨.w rfl rfl rfl (by rintro _ _ ⟨rfl, rfl⟩; rfl) (by intro X; rintro _ _ ⟨rfl, rfl⟩ _ _ ⟨hm96, rfl, rfl⟩; exact op_val (v' := .bool true) (by (refine congrArg Value.bool (decide_eq_true ?_)); (rw [hC, hm96]; exact ⟨sameK_eq.2 rfl, rfl, rfl⟩)) (op_fn Try.func27 rfl rfl rfl (lsame_any _ _ _ _ (Sl.lab 31 rfl (by first | (simp [maxLen]; done) | (unfold maxLen; omega))) (Sl.lab 96 rfl (by rw [hm96]; have := coarse_le (lat := decide (k.met = 3)) (fr := fr) (sz := sz) (l := L) L.length; unfold maxLen; omega))))),
                  ⟨.w rfl rfl rfl (by rintro _ _ ⟨rfl, rfl⟩; rfl) (by intro X; rintro _ _ ⟨rfl, rfl⟩; exact op_not_t rfl),
                  ⟨.p rfl (by intro X; rintro _ _ ⟨rfl, rfl⟩ _ _ ⟨rfl, rfl⟩; exact op_pick_f rfl rfl),
                  ⟨.p rfl (by intro X; rintro _ _ ⟨rfl, rfl⟩; exact op_move rfl),
                  ⟨.w rfl rfl rfl (by rintro _ _ ⟨rfl, rfl⟩; rfl) (by intro X; exact op_fieldAddr (off := 2) rfl tF48_2j),
                  ⟨.w rfl rfl rfl (by rintro _ _ ⟨rfl, rfl⟩; rfl) (by intro X; rintro _ _ ⟨rfl, rfl⟩; exact op_load1 rfl tO3j (Ent.lab (l := 7) rfl (says_cel 2))),
                  ⟨.w rfl rfl rfl (by rintro _ _ ⟨rfl, rfl⟩; rfl) (by intro X; rintro _ _ ⟨rfl, rfl⟩; exact op_neq rfl rfl),
                  ⟨.w rfl rfl rfl (by rintro _ _ ⟨rfl, rfl⟩; rfl) (by intro X; rintro _ _ ⟨rfl, rfl⟩; exact op_move rfl),
                  ⟨.w rfl rfl rfl (by rintro _ _ ⟨rfl, rfl⟩; first | rfl | (exact congrArg Value.bool (decide_eq_true (by omega))) | (exact congrArg Value.bool (decide_eq_false (by omega))) | (simp; done) | (simp; omega) | (simp [*]; done)) (by intro X; exact op_loadA rfl tA48j (Ent.lab (l := 10) rfl (says_cel 0)) (Nat.le_of_ble_eq_true rfl)),
                  ⟨.w rfl rfl rfl (by rintro _ _ ⟨rfl, rfl⟩; first | rfl | (exact congrArg Value.bool (decide_eq_true (by omega))) | (exact congrArg Value.bool (decide_eq_false (by omega))) | (simp; done) | (simp; omega) | (simp [*]; done)) (by intro X; rintro _ _ ⟨rfl, rfl⟩; exact op_fn Try.func29 rfl rfl rfl (total_any _ _ (Sl.lab 31 rfl (by first | (simp [maxLen]; done) | (unfold maxLen; omega))) (by omega) (by assumption))),
                  ⟨.w rfl rfl rfl (by rintro _ _ ⟨rfl, rfl⟩; first | rfl | (exact congrArg Value.bool (decide_eq_true (by omega))) | (exact congrArg Value.bool (decide_eq_false (by omega))) | (simp; done) | (simp; omega) | (simp [*]; done)) (by intro X; exact op_loadA rfl tA48j (Ent.lab (l := 7) rfl (says_cel 0)) (Nat.le_of_ble_eq_true rfl)),
                  ⟨.w rfl rfl rfl (by rintro _ _ ⟨rfl, rfl⟩; first | rfl | (exact congrArg Value.bool (decide_eq_true (by omega))) | (exact congrArg Value.bool (decide_eq_false (by omega))) | (simp; done) | (simp; omega) | (simp [*]; done)) (by intro X; rintro _ _ ⟨rfl, rfl⟩; exact op_fn Try.func29 rfl rfl rfl (total_any _ _ (Sl.lab 21 rfl (by first | (simp [maxLen]; done) | (unfold maxLen; omega))) (by omega) (by assumption))),
                  ⟨.w rfl rfl rfl (by rintro _ _ ⟨rfl, rfl⟩; first | rfl | (exact congrArg Value.bool (decide_eq_true (by omega))) | (exact congrArg Value.bool (decide_eq_false (by omega))) | (simp; done) | (simp; omega) | (simp [*]; done)) (by intro X; rintro _ _ ⟨rfl, rfl⟩ _ _ ⟨rfl, rfl⟩; exact op_val (v' := .bool false) (by (refine congrArg Value.bool (decide_eq_false ?_)); (rw [hC]; dsimp only; rw [decide_eq_false hlat, coarse_sum (by omega) _ (Nat.le_refl _), List.take_length]; simp)) (op_neq rfl rfl)),
                  ⟨.w rfl rfl rfl (by rintro _ _ ⟨rfl, rfl⟩; rfl) (by intro X; rintro _ _ ⟨rfl, rfl⟩ _ _ ⟨rfl, rfl⟩; exact op_pick_t (by first | rfl | (show some (Value.bool (decide _)) = _; rw [decide_eq_true (by omega)]) | (show some (Value.bool (decide _)) = _; rw [decide_eq_false (by omega)]) | (simp [ev, lk]; done) | (simp [ev, lk]; omega) | (simp [ev, lk, *]; done)) rfl),
                  ⟨.p rfl (by intro X; rintro _ _ ⟨rfl, rfl⟩ _ _ ⟨rfl, rfl⟩; exact op_pick_f rfl rfl),
                  trivial⟩⟩⟩⟩⟩⟩⟩⟩⟩⟩⟩⟩⟩⟩⟩⟩⟩⟩⟩⟩⟩⟩)
                  (fun β β' => ⟨fun _ => by rfl, ⟨fun _ => by rfl, ⟨fun _ => by rfl, ⟨fun _ => by rfl, ⟨fun _ => by rfl, ⟨fun _ => by rfl, ⟨fun _ => by rfl, ⟨fun h => by first | rfl | (simp only [h 6 (by decide)]), ⟨fun h => by first | rfl | (simp only [h 6 (by decide)]), ⟨fun h => by first | rfl | (simp only [h 6 (by decide)]), ⟨fun h => by first | rfl | (simp only [h 6 (by decide)]), ⟨fun _ => by rfl, ⟨fun _ => by rfl, ⟨fun _ => by rfl, ⟨fun _ => by rfl, ⟨fun _ => by rfl, ⟨fun _ => by rfl, ⟨fun _ => by rfl, ⟨fun _ => by rfl, ⟨fun _ => by rfl, ⟨fun _ => by rfl, ⟨fun h => by first | rfl | (simp only [h 6 (by decide)]), trivial⟩⟩⟩⟩⟩⟩⟩⟩⟩⟩⟩⟩⟩⟩⟩⟩⟩⟩⟩⟩⟩⟩) ?_
              intro β
              rintro _ _ ⟨rfl, rfl⟩ _ _ ⟨rfl, rfl⟩ _ _ ⟨rfl, rfl⟩ _ _ ⟨rfl, rfl⟩ _ _ ⟨rfl, rfl⟩ _ _ ⟨rfl, rfl⟩ _ _ ⟨hm96, rfl, rfl⟩ _ _ ⟨rfl, rfl⟩ _ _ ⟨rfl, rfl⟩ _ _ ⟨rfl, rfl⟩ _ _ ⟨rfl, rfl⟩ _ _ ⟨rfl, rfl⟩ _ _ ⟨rfl, rfl⟩ _ _ ⟨rfl, rfl⟩ _ _ ⟨rfl, rfl⟩ _ _ ⟨rfl, rfl⟩ _ _ ⟨rfl, rfl⟩ _ _ ⟨rfl, rfl⟩ _ _ ⟨rfl, rfl⟩ _ _ ⟨rfl, rfl⟩ _ _ ⟨rfl, rfl⟩ _ _ ⟨rfl, rfl⟩
              generalize (β 6).l = m96 at hm96 ⊢
              generalize (β 6).a = a96 at hm96 ⊢
              generalize (β 6).c = c96 at hm96 ⊢
              refine wl_norm (e' := [(2, _), (7, _), (12, _), (13, _), (111, _)]) (.cons rfl (.cons rfl (.cons rfl (.cons rfl (.cons rfl (.nil _)))))) (by dsimp only [cond_false, cond_true, List.nil_append, List.cons_append]) ?_
              refine wl_nil ?_
              refine st_tn ?_
              refine w_cond_f (rfl) ?_
              refine w_skip ?_
              refine st_tn ?_
              refine w_seq ?_
              refine w_seq ?_
              refine w_cutL [(117, .bool (decide (sz < 1 ∨ sz > 1024)))] [2, 7, 12, 13] [3, 21, 7, 25, 8, 31, 10, 37, 14, 96] rfl (fun K' hK => ?_) ?_
              · -- cut r19
                refine w_region ?_
                refine wl_det rfl rfl rfl (op_move rfl) ?_
                refine wl_det rfl rfl rfl (op_lss rfl rfl) ?_
                refine wl_det rfl rfl rfl (op_move rfl) ?_
                refine wl_gsplit (t := 114) rfl (fun hg114 => ?_) (fun hg114 => ?_)
                · -- 114 is True
                  refine wl_unwanted rfl rfl rfl rfl rfl rfl rfl rfl ?_
                  refine wl_unwanted rfl rfl rfl rfl rfl rfl rfl rfl ?_
                  refine wl_det rfl rfl rfl (op_pick_t rfl rfl) ?_
                  refine wl_nil ?_
                  refine st_tn ?_
                  exact cut_done1 [3, 21, 7, 25, 8, 31, 10, 37, 14, 96] hK rfl (by first | (rw [decide_eq_decide]; omega) | (symm; rw [decide_eq_false_iff_not]; omega) | (symm; rw [decide_eq_true_iff]; omega) | (simp; done) | (simp; omega) | (simp [*]; done) | (simp [*]; omega)) (by rfl) rfl rfl
                · -- 114 is False
                  refine wl_wanted_det rfl rfl rfl rfl rfl rfl rfl (op_move rfl) ?_
                  refine wl_wanted_det rfl rfl rfl rfl rfl rfl rfl (op_gtr rfl rfl) ?_
                  refine wl_det rfl rfl rfl (op_pick_f rfl rfl) ?_
                  refine wl_nil ?_
                  refine st_tn ?_
                  exact cut_done1 [3, 21, 7, 25, 8, 31, 10, 37, 14, 96] hK rfl (by first | (rw [decide_eq_decide]; omega) | (symm; rw [decide_eq_false_iff_not]; omega) | (symm; rw [decide_eq_true_iff]; omega) | (simp; done) | (simp; omega) | (simp [*]; done) | (simp [*]; omega)) (by rfl) rfl rfl
              · -- behind r19
                show W _ _ _ _ _ [(117, _), (2, _), (7, _), (12, _), (13, _)] [(3, _), (21, _), (7, _), (25, _), (8, _), (31, _), (10, _), (37, _), (14, _), (96, _)] _
                refine w_cond_d rfl (fun hc117 => ?_) (fun hc117 => ?_)
                · -- c117.t
                  have hM : movE k sz = 2 := by unfold movE; rw [if_pos hc117]
                  refine w_seq ?_
                  refine w_region ?_
                  refine wl_det rfl rfl rfl (op_move rfl) ?_
                  refine wl_det rfl rfl rfl (op_val (v' := .bool true) (by rw [hM]; rfl) (op_eql rfl rfl)) ?_
                  refine wl_det rfl rfl rfl (op_assign rfl) ?_
                  refine wl_nil ?_
                  refine st_tn ?_
                  refine w_ret ?_
                  refine st_tr ?_
                  refine st_ret (vs := [_]) [] Try.results6 ⟨rfl, trivial⟩ rfl ?_
                  refine ⟨_, rfl, ?_⟩
                  exact ⟨rfl, rfl⟩
                · -- c117.f
                  refine w_skip ?_
                  refine st_tn ?_
                  refine w_seq ?_
                  refine w_seq ?_
                  refine w_region ?_
                  refine wl_det rfl rfl rfl (op_fieldAddr (off := 2) rfl tF48_2j) ?_
                  refine wl_det rfl rfl rfl (op_load1 rfl tO3j (Ent.lab (l := 7) rfl (says_cel 2))) ?_
                  refine wl_det rfl rfl rfl (op_eql rfl rfl) ?_
                  refine wl_nil ?_
                  refine st_tn ?_
                  refine w_cond_d rfl (fun hc122 => ?_) (fun hc122 => ?_)
                  · -- c122.t
                    have hM : movE k sz = 12 := by unfold movE; rw [if_neg hc117, if_pos hc122]
                    refine w_seq ?_
                    refine w_region ?_
                    refine wl_det rfl rfl rfl (op_move rfl) ?_
                    refine wl_det rfl rfl rfl (op_val (v' := .bool true) (by rw [hM]; rfl) (op_eql rfl rfl)) ?_
                    refine wl_det rfl rfl rfl (op_assign rfl) ?_
                    refine wl_nil ?_
                    refine st_tn ?_
                    refine w_ret ?_
                    refine st_tr ?_
                    refine st_ret (vs := [_]) [] Try.results6 ⟨rfl, trivial⟩ rfl ?_
                    refine ⟨_, rfl, ?_⟩
                    exact ⟨rfl, rfl⟩
                  · -- c122.f
                    have hM : movE k sz = 0 := by unfold movE; rw [if_neg hc117, if_neg hc122]
                    obtain ⟨w, rfl⟩ := Int.eq_ofNat_of_zero_le (show 0 ≤ sz by omega)
                    refine w_skip ?_
                    refine st_tn ?_
                    refine w_seq ?_
                    refine w_region ?_
                    refine wl_det rfl rfl rfl (op_assign rfl) ?_
                    refine wl_nil ?_
                    refine st_tn ?_
                    refine w_seq ?_
                    refine w_seq ?_
                    refine w_region ?_
                    refine wl_det rfl rfl rfl (op_assign rfl) ?_
                    refine wl_nil ?_
                    refine st_tn ?_
                    refine w_block ?_
                    refine w_emp 16 (slO_nil 3 1) ?_
                    refine w_loopQ (X := List Int × Option Addr × Nat × Nat) (fun z => z.2.2.2 ≤ L.length ∧ z.1 = movL L w z.2.2.2) (fun z => [(16, .slice (z.2.1) (z.1).length (z.2.2.1)), (17, .int .i64 (z.2.2.2))]) (fun z => [(16, slW 3 encZ 1 (.slice (z.2.1) (z.1).length (z.2.2.1)) (z.1))]) (fun z => L.length - z.2.2.2) (([], none, 0, 0)) [(2, _), (7, _), (12, _), (13, _)] [(3, _), (21, _), (7, _), (25, _), (8, _), (31, _), (10, _), (37, _), (14, _), (96, _)] [16, 3, 21, 7, 25, 8, 31, 10, 37, 14, 96] rfl (rfl) (.cons rfl (.cons rfl (.nil _))) (.cons rfl (.cons rfl (.cons rfl (.cons rfl (.nil _))))) (by
                        try dsimp only
                        exact ⟨Nat.zero_le _, rfl⟩) ?_
                    rintro ⟨want, a_want, c_want, i⟩ ⟨hi, hw⟩
                    refine w_norm2 (by dsimp only [List.cons_append, List.nil_append]) (by dsimp only [List.cons_append, List.nil_append]) ?_
                    try dsimp only at hi hw ⊢
                    refine w_seq ?_
                    refine w_seq ?_
                    refine w_region ?_
                    refine wl_det rfl rfl rfl (op_move rfl) ?_
                    refine wl_det rfl rfl rfl (op_fieldAddr (off := 6) rfl tF48_5j) ?_
                    refine wl_det rfl rfl rfl (op_load1 rfl tO25j (Ent.lab (l := 7) rfl (says_cel 6))) ?_
                    refine wl_det rfl rfl rfl (op_lenT rfl tS25j (Sl.ent (Sl.lab 21 rfl (by first | (simp [maxLen]; done) | (unfold maxLen; omega))))) ?_
                    refine wl_det rfl rfl rfl (op_lss rfl rfl) ?_
                    refine wl_nil ?_
                    refine st_tn ?_
                    refine w_cond_d rfl (fun hc129 => ?_) (fun hc129 => ?_)
                    · -- c129.t
                      obtain ⟨x, hx⟩ := getE (l := L) (i := i) (by omega)
                      have hwl : want.length = i := by rw [hw]; simp [movL]
                      refine w_skip ?_
                      refine st_tn ?_
                      refine w_seq ?_
                      refine w_block ?_
                      refine w_seq ?_
                      refine w_region ?_
                      refine wl_det rfl rfl rfl (op_assign rfl) ?_
                      refine wl_nil ?_
                      refine st_tn ?_
                      refine w_seq ?_
                      refine w_seq ?_
                      refine w_region ?_
                      refine wl_det rfl rfl rfl (op_move rfl) ?_
                      refine wl_det rfl rfl rfl (op_move rfl) ?_
                      refine wl_det rfl rfl rfl (op_sub' rfl rfl (by omega)) ?_
                      refine wl_det rfl rfl rfl (op_add' rfl rfl (by omega)) ?_
                      refine wl_det rfl rfl rfl (op_val (v' := .int .i64 ((i + 1 - w : Nat) : Int)) (by congr 1; omega) (op_max rfl rfl)) ?_
                      refine wl_det rfl rfl rfl (op_assign rfl) ?_
                      refine wl_nil ?_
                      refine st_tn ?_
                      refine w_block ?_
                      refine w_loopQ (X := Int × Nat) (fun z => (i + 1 - w ≤ z.2 ∧ z.2 ≤ i + 1) ∧ z.1 = ((L.take z.2).drop (i + 1 - w)).sum ∧ 0 ≤ z.1 ∧ z.1 ≤ z.2 * 255) (fun z => [(18, .int .i64 (z.1)), (19, .int .i64 (z.2))]) (fun _ => []) (fun z => i + 1 - z.2) ((_, i + 1 - w)) [(2, _), (7, _), (12, _), (13, _), (16, _), (17, _)] [(16, _), (3, _), (21, _), (7, _), (25, _), (8, _), (31, _), (10, _), (37, _), (14, _), (96, _)] [16, 3, 21, 7, 25, 8, 31, 10, 37, 14, 96] rfl (rfl) (.cons rfl (.cons rfl (.nil _))) (.cons rfl (.cons rfl (.cons rfl (.cons rfl (.cons rfl (.cons rfl (.nil _))))))) (by
                          try dsimp only
                          refine ⟨⟨Nat.le_refl _, by omega⟩, ?_, by omega, by omega⟩
                          rw [List.drop_of_length_le (by rw [List.length_take]; omega)]; rfl) ?_
                      rintro ⟨n, j⟩ ⟨⟨hj0, hj1⟩, hn, hn0, hn1⟩
                      refine w_norm2 (by dsimp only [List.cons_append, List.nil_append]) (by dsimp only [List.cons_append, List.nil_append]) ?_
                      try dsimp only at hj0 hj1 hn hn0 hn1 ⊢
                      refine w_seq ?_
                      refine w_seq ?_
                      refine w_region ?_
                      refine wl_det rfl rfl rfl (op_move rfl) ?_
                      refine wl_det rfl rfl rfl (op_move rfl) ?_
                      refine wl_det rfl rfl rfl (op_leq rfl rfl) ?_
                      refine wl_nil ?_
                      refine st_tn ?_
                      refine w_cond_d rfl (fun hc139 => ?_) (fun hc139 => ?_)
                      · -- c139.t
                        obtain ⟨z, hz⟩ := getE (l := L) (i := j) (by omega)
                        have hzb := hv8 z (List.mem_of_getElem? hz)
                        refine w_skip ?_
                        refine st_tn ?_
                        refine w_seq ?_
                        refine w_block ?_
                        refine w_region ?_
                        refine wl_det rfl rfl rfl (op_move rfl) ?_
                        refine wl_det rfl rfl rfl (op_fieldAddr (off := 6) rfl tF48_5j) ?_
                        refine wl_det rfl rfl rfl (op_load1 rfl tO25j (Ent.lab (l := 7) rfl (says_cel 6))) ?_
                        refine wl_det rfl rfl rfl (op_move rfl) ?_
                        refine wl_det rfl rfl rfl (op_idx rfl rfl tS25j (Sl.ent (Sl.lab 21 rfl (by first | (simp [maxLen]; done) | (unfold maxLen; omega)))) (by omega)) ?_
                        refine wl_det rfl rfl rfl (op_ldx rfl tO3j (Sl.lab 21 rfl (by first | (simp [maxLen]; done) | (unfold maxLen; omega))) (by assumption) (by rfl)) ?_
                        refine wl_det rfl rfl rfl (op_add' rfl rfl (by omega)) ?_
                        refine wl_det rfl rfl rfl (op_assign rfl) ?_
                        refine wl_nil ?_
                        refine st_bn ?_
                        refine st_tn ?_
                        refine w_region ?_
                        refine wl_det rfl rfl rfl (op_move rfl) ?_
                        refine wl_det rfl rfl rfl (op_add' rfl rfl (by omega)) ?_
                        refine wl_det rfl rfl rfl (op_assign rfl) ?_
                        refine wl_nil ?_
                        refine st_roundQ (x := (n, j)) ((_, j + 1)) [16, 3, 21, 7, 25, 8, 31, 10, 37, 14, 96] rfl (rfl) (.cons rfl (.cons rfl (.nil _))) (.cons rfl (.cons rfl (.cons rfl (.cons rfl (.cons rfl (.cons rfl (.nil _))))))) (by
                            try dsimp only
                            refine ⟨⟨by omega, by omega⟩, ?_, by omega, by omega⟩
                            rw [take_snoc hz, List.drop_append_of_le_length (by rw [List.length_take]; omega), List.sum_append, ← hn]; simp) (by
                            try dsimp only
                            omega) 
                      · -- c139.f
                        obtain rfl : j = i + 1 := by omega
                        have hnew : want ++ [n] = movL L w (i + 1) := by
                          rw [movL_succ, ← hw, mov_wsum (by omega) _ (by omega), hn]; rfl
                        refine w_exit ?_
                        refine st_te ?_
                        refine st_te ?_
                        refine st_be ?_
                        refine st_tn ?_
                        refine w_region ?_
                        refine wl_det rfl rfl rfl (op_move rfl) ?_
                        refine wl_det rfl rfl rfl (op_move rfl) ?_
                        refine wl_op [] rfl rfl rfl rfl (op_buildSlice (enc := encZ) (l := [_]) (lab := 151) tL25_1j rfl rfl (fun _ => rfl) rfl) ?_
                        rintro _ _ ⟨a151, c151, rfl, rfl⟩
                        refine wl_op [16] rfl rfl rfl rfl (op_append (lab := 16) (lab' := 152) rfl rfl tP25j enc1Z (Sl.lab 151 rfl (by simp [maxLen])) (by first | omega | (simp; done) | (simp; omega) | (simp [*]; omega)) (by first | omega | (simp; done) | (simp; omega) | (simp [*]; omega))) ?_
                        rintro _ _ ⟨a152, c152, rfl, rfl⟩
                        refine wl_det rfl rfl rfl (op_assign rfl) ?_
                        refine wl_nil ?_
                        refine st_bn ?_
                        refine st_tn ?_
                        refine w_region ?_
                        refine wl_det rfl rfl rfl (op_move rfl) ?_
                        refine wl_det rfl rfl rfl (op_add' rfl rfl (by omega)) ?_
                        refine wl_det rfl rfl rfl (op_assign rfl) ?_
                        refine wl_nil ?_
                        refine st_roundQ (x := (want, a_want, c_want, i)) ((_, _, _, i + 1)) [152, 3, 21, 7, 25, 8, 31, 10, 37, 14, 96] rfl (rfl) (.cons rfl (.cons rfl (.nil _))) (.cons rfl (.cons rfl (.cons rfl (.cons rfl (.nil _))))) (by
                            try dsimp only
                            exact ⟨by omega, hnew⟩) (by
                            try dsimp only
                            omega) 
                    · -- c129.f
                      have hwl : want.length = i := by rw [hw]; simp [movL]
                      refine w_exit ?_
                      refine st_te ?_
                      refine st_te ?_
                      refine st_be ?_
                      refine st_tn ?_
                      refine w_seq ?_
                      refine w_region ?_
                      refine wl_det rfl rfl rfl (op_move rfl) ?_
                      refine wl_det rfl rfl rfl (op_val (v' := .bool true) (by rw [hM]; rfl) (op_eql rfl rfl)) ?_
                      refine wl_det rfl rfl rfl (op_move rfl) ?_
                      refine wl_wanted_det rfl rfl rfl rfl rfl rfl rfl (op_move rfl) ?_
                      refine wl_wanted_det rfl rfl rfl rfl rfl rfl rfl (op_move rfl) ?_
                      refine wl_wanted_det rfl rfl rfl rfl rfl rfl rfl (op_val (v' := .bool true) (by 
                            refine congrArg Value.bool (decide_eq_true ?_)
                            rw [hm37, hM, if_pos rfl, hw, show i = L.length by omega]) (op_fn Try.func22 rfl rfl rfl (ints_any (Sl.lab 37 rfl (by first | (simp [maxLen]; done) | (unfold maxLen; omega))) (Sl.lab 16 rfl (by first | (simp [maxLen]; done) | (unfold maxLen; omega)))))) ?_
                      refine wl_det rfl rfl rfl (op_pick_t rfl rfl) ?_
                      refine wl_det rfl rfl rfl (op_assign rfl) ?_
                      refine wl_nil ?_
                      refine st_tn ?_
                      refine w_ret ?_
                      refine st_ret (vs := [_]) [] Try.results6 ⟨rfl, trivial⟩ rfl ?_
                      refine ⟨_, rfl, ?_⟩
                      exact ⟨rfl, rfl⟩
            · -- hlat False
              refine w_drawW (fun β => [⟨90, [], [], [], noW (_), false, [], []⟩, ⟨91, [0], [], [], noW (_), false, [], []⟩, ⟨92, [1], [], [], noW (_), false, [], []⟩, ⟨93, [], [], [], noW (_), false, [], []⟩, ⟨94, [], [], [], noW (_), false, [], []⟩, ⟨95, [], [], [], noW (_), false, [], []⟩, ⟨96, [4, 5], [], [], fun w => AndW _ (DetW _ _), false, [], []⟩, ⟨97, [3, 6], [], [], noW (_), false, [], []⟩, ⟨98, [7], [], [], noW (_), false, [], []⟩, ⟨99, [2, 8], [], [], noW (_), false, [], []⟩, ⟨100, [9], [], [], noW (_), false, [], []⟩, ⟨101, [], [], [], noW (_), false, [], []⟩, ⟨102, [11], [], [], noW (_), false, [], []⟩, ⟨103, [12], [], [], noW (_), false, [], []⟩, ⟨104, [13], [], [], noW (_), false, [], []⟩, ⟨105, [], [], [], noW (Det undef), false, [], []⟩, ⟨106, [], [], [], noW (Det undef), false, [], []⟩, ⟨107, [], [], [], noW (Det undef), false, [], []⟩, ⟨108, [], [], [], noW (Det undef), false, [], []⟩, ⟨109, [], [], [], noW (Det undef), false, [], []⟩, ⟨110, [14, 19], [], [], noW (_), false, [], []⟩, ⟨111, [10, 20], [], [], noW (_), false, [], []⟩]) [] [11, 10, 7, 2] [⟨90, [], [], false, [], []⟩, ⟨91, [0], [], false, [], []⟩, ⟨92, [1], [], false, [], []⟩, ⟨93, [], [], false, [], []⟩, ⟨94, [], [], false, [], []⟩, ⟨95, [], [], false, [], []⟩, ⟨96, [4, 5], [], false, [], []⟩, ⟨97, [3, 6], [], false, [], []⟩, ⟨98, [7], [], false, [], []⟩, ⟨99, [2, 8], [], false, [], []⟩, ⟨100, [9], [], false, [], []⟩, ⟨101, [], [], false, [], []⟩, ⟨102, [11], [], false, [], []⟩, ⟨103, [12], [], false, [], []⟩, ⟨104, [13], [], false, [], []⟩, ⟨105, [], [], false, [], []⟩, ⟨106, [], [], false, [], []⟩, ⟨107, [], [], false, [], []⟩, ⟨108, [], [], false, [], []⟩, ⟨109, [], [], false, [], []⟩, ⟨110, [14, 19], [], false, [], []⟩, ⟨111, [10, 20], [], false, [], []⟩] [[], [], [], [], [], [], [], [6], [6], [6], [6], [], [], [], [], [], [], [], [], [], [], [6]] [[], [], [], [], [], [], [], [], [], [], [], [], [], [], [], [], [], [], [], [], [], []] tMixj (fun _ => by rfl) (fun _ => by rfl) (by kernel_rfl) (by kernel_rfl) (by rfl) (by rfl)
                  (fun β => ⟨.p rfl (by intro X; exact op_move rfl),
                  ⟨.p rfl (by intro X; rintro _ _ ⟨rfl, rfl⟩; exact op_val (v' := .bool false) (by rw [hC]; rfl) (op_neq rfl rfl)),
                  ⟨.p rfl (by intro X; rintro _ _ ⟨rfl, rfl⟩; exact op_move rfl),
                  ⟨.w rfl rfl rfl (by rintro _ _ ⟨rfl, rfl⟩; rfl) (by intro X; exact op_loadA rfl tA48j (Ent.lab (l := 10) rfl (says_cel 0)) (Nat.le_of_ble_eq_true rfl)),
                  ⟨.w rfl rfl rfl (by rintro _ _ ⟨rfl, rfl⟩; rfl) (by intro X; exact op_loadA rfl tA48j (Ent.lab (l := 7) rfl (says_cel 0)) (Nat.le_of_ble_eq_true rfl)),
                  ⟨.w rfl rfl rfl (by rintro _ _ ⟨rfl, rfl⟩; rfl) (by intro X; exact op_move rfl),
                  ⟨.wx rfl rfl rfl (by rintro _ _ ⟨rfl, rfl⟩; rfl) (by intro X; rintro _ _ ⟨rfl, rfl⟩ _ _ ⟨rfl, rfl⟩; refine OpT.mono (op_fn Try.func28 rfl rfl rfl (lcoarsen_any 96 _ _ _ (Sl.lab 21 rfl (by first | (simp [maxLen]; done) | (unfold maxLen; omega))) (by omega) (by omega) (by assumption) (by omega))) ?_; rintro _ _ ⟨m96, a96, c96, hm96, rfl, rfl⟩; obtain ⟨w, rfl, rfl, rfl⟩ : ∃ w : Wt, w.l = m96 ∧ w.a = a96 ∧ w.c = c96 := ⟨{ l := m96, a := a96, c := c96 }, rfl, rfl, rfl⟩; exact ⟨w, hm96, rfl, rfl⟩),
                  ⟨.w rfl rfl rfl (by rintro _ _ ⟨rfl, rfl⟩; rfl) (by intro X; rintro _ _ ⟨rfl, rfl⟩ _ _ ⟨hm96, rfl, rfl⟩; exact op_val (v' := .bool true) (by (refine congrArg Value.bool (decide_eq_true ?_)); (rw [hC, hm96]; exact ⟨sameK_eq.2 rfl, rfl, rfl⟩)) (op_fn Try.func27 rfl rfl rfl (lsame_any _ _ _ _ (Sl.lab 31 rfl (by first | (simp [maxLen]; done) | (unfold maxLen; omega))) (Sl.lab 96 rfl (by rw [hm96]; have := coarse_le (lat := decide (k.met = 3)) (fr := fr) (sz := sz) (l := L) L.length; unfold maxLen; omega))))),
                  ⟨.w rfl rfl rfl (by rintro _ _ ⟨rfl, rfl⟩; rfl) (by intro X; rintro _ _ ⟨rfl, rfl⟩; exact op_not_t rfl),
                  ⟨.p rfl (by intro X; rintro _ _ ⟨rfl, rfl⟩ _ _ ⟨rfl, rfl⟩; exact op_pick_f rfl rfl),
                  ⟨.p rfl (by intro X; rintro _ _ ⟨rfl, rfl⟩; exact op_move rfl),
                  ⟨.w rfl rfl rfl (by rintro _ _ ⟨rfl, rfl⟩; rfl) (by intro X; exact op_fieldAddr (off := 2) rfl tF48_2j),
                  ⟨.w rfl rfl rfl (by rintro _ _ ⟨rfl, rfl⟩; rfl) (by intro X; rintro _ _ ⟨rfl, rfl⟩; exact op_load1 rfl tO3j (Ent.lab (l := 7) rfl (says_cel 2))),
                  ⟨.w rfl rfl rfl (by rintro _ _ ⟨rfl, rfl⟩; rfl) (by intro X; rintro _ _ ⟨rfl, rfl⟩; exact op_neq rfl rfl),
                  ⟨.w rfl rfl rfl (by rintro _ _ ⟨rfl, rfl⟩; rfl) (by intro X; rintro _ _ ⟨rfl, rfl⟩; exact op_move rfl),
                  ⟨.u rfl rfl rfl (by rintro _ _ ⟨rfl, rfl⟩; exact congrArg (offB true) (by first | rfl | (exact congrArg Value.bool (decide_eq_true (by omega))) | (exact congrArg Value.bool (decide_eq_false (by omega))) | (simp; done) | (simp; omega) | (simp [*]; done) : _ = Value.bool false)) ⟨rfl, rfl⟩ rfl rfl,
                  ⟨.u rfl rfl rfl (by rintro _ _ ⟨rfl, rfl⟩; exact congrArg (offB true) (by first | rfl | (exact congrArg Value.bool (decide_eq_true (by omega))) | (exact congrArg Value.bool (decide_eq_false (by omega))) | (simp; done) | (simp; omega) | (simp [*]; done) : _ = Value.bool false)) ⟨rfl, rfl⟩ rfl rfl,
                  ⟨.u rfl rfl rfl (by rintro _ _ ⟨rfl, rfl⟩; exact congrArg (offB true) (by first | rfl | (exact congrArg Value.bool (decide_eq_true (by omega))) | (exact congrArg Value.bool (decide_eq_false (by omega))) | (simp; done) | (simp; omega) | (simp [*]; done) : _ = Value.bool false)) ⟨rfl, rfl⟩ rfl rfl,
                  ⟨.u rfl rfl rfl (by rintro _ _ ⟨rfl, rfl⟩; exact congrArg (offB true) (by first | rfl | (exact congrArg Value.bool (decide_eq_true (by omega))) | (exact congrArg Value.bool (decide_eq_false (by omega))) | (simp; done) | (simp; omega) | (simp [*]; done) : _ = Value.bool false)) ⟨rfl, rfl⟩ rfl rfl,
                  ⟨.u rfl rfl rfl (by rintro _ _ ⟨rfl, rfl⟩; exact congrArg (offB true) (by first | rfl | (exact congrArg Value.bool (decide_eq_true (by omega))) | (exact congrArg Value.bool (decide_eq_false (by omega))) | (simp; done) | (simp; omega) | (simp [*]; done) : _ = Value.bool false)) ⟨rfl, rfl⟩ rfl rfl,
                  ⟨.w rfl rfl rfl (by rintro _ _ ⟨rfl, rfl⟩; rfl) (by intro X; rintro _ _ ⟨rfl, rfl⟩ _ _ ⟨rfl, rfl⟩; exact op_pick_f (by first | rfl | (show some (Value.bool (decide _)) = _; rw [decide_eq_true (by omega)]) | (show some (Value.bool (decide _)) = _; rw [decide_eq_false (by omega)]) | (simp [ev, lk]; done) | (simp [ev, lk]; omega) | (simp [ev, lk, *]; done)) rfl),
                  ⟨.p rfl (by intro X; rintro _ _ ⟨rfl, rfl⟩ _ _ ⟨rfl, rfl⟩; exact op_pick_f rfl rfl),
                  trivial⟩⟩⟩⟩⟩⟩⟩⟩⟩⟩⟩⟩⟩⟩⟩⟩⟩⟩⟩⟩⟩⟩)
                  (fun β β' => ⟨fun _ => by rfl, ⟨fun _ => by rfl, ⟨fun _ => by rfl, ⟨fun _ => by rfl, ⟨fun _ => by rfl, ⟨fun _ => by rfl, ⟨fun _ => by rfl, ⟨fun h => by first | rfl | (simp only [h 6 (by decide)]), ⟨fun h => by first | rfl | (simp only [h 6 (by decide)]), ⟨fun h => by first | rfl | (simp only [h 6 (by decide)]), ⟨fun h => by first | rfl | (simp only [h 6 (by decide)]), ⟨fun _ => by rfl, ⟨fun _ => by rfl, ⟨fun _ => by rfl, ⟨fun _ => by rfl, ⟨fun _ => by rfl, ⟨fun _ => by rfl, ⟨fun _ => by rfl, ⟨fun _ => by rfl, ⟨fun _ => by rfl, ⟨fun _ => by rfl, ⟨fun h => by first | rfl | (simp only [h 6 (by decide)]), trivial⟩⟩⟩⟩⟩⟩⟩⟩⟩⟩⟩⟩⟩⟩⟩⟩⟩⟩⟩⟩⟩⟩) ?_
              intro β
              rintro _ _ ⟨rfl, rfl⟩ _ _ ⟨rfl, rfl⟩ _ _ ⟨rfl, rfl⟩ _ _ ⟨rfl, rfl⟩ _ _ ⟨rfl, rfl⟩ _ _ ⟨rfl, rfl⟩ _ _ ⟨hm96, rfl, rfl⟩ _ _ ⟨rfl, rfl⟩ _ _ ⟨rfl, rfl⟩ _ _ ⟨rfl, rfl⟩ _ _ ⟨rfl, rfl⟩ _ _ ⟨rfl, rfl⟩ _ _ ⟨rfl, rfl⟩ _ _ ⟨rfl, rfl⟩ _ _ ⟨rfl, rfl⟩ _ _ ⟨rfl, rfl⟩ _ _ ⟨rfl, rfl⟩ _ _ ⟨rfl, rfl⟩ _ _ ⟨rfl, rfl⟩ _ _ ⟨rfl, rfl⟩ _ _ ⟨rfl, rfl⟩ _ _ ⟨rfl, rfl⟩
              generalize (β 6).l = m96 at hm96 ⊢
              generalize (β 6).a = a96 at hm96 ⊢
              generalize (β 6).c = c96 at hm96 ⊢
              refine wl_norm (e' := [(2, _), (7, _), (12, _), (13, _), (111, _)]) (.cons rfl (.cons rfl (.cons rfl (.cons rfl (.cons rfl (.nil _)))))) (by dsimp only [cond_false, cond_true, List.nil_append, List.cons_append]) ?_
              refine wl_nil ?_
              refine st_tn ?_
              refine w_cond_f (rfl) ?_
              refine w_skip ?_
              refine st_tn ?_
              refine w_seq ?_
              refine w_seq ?_
              refine w_cutL [(117, .bool (decide (sz < 1 ∨ sz > 1024)))] [2, 7, 12, 13] [3, 21, 7, 25, 8, 31, 10, 37, 14, 96] rfl (fun K' hK => ?_) ?_
              · -- cut r19
                refine w_region ?_
                refine wl_det rfl rfl rfl (op_move rfl) ?_
                refine wl_det rfl rfl rfl (op_lss rfl rfl) ?_
                refine wl_det rfl rfl rfl (op_move rfl) ?_
                refine wl_gsplit (t := 114) rfl (fun hg114 => ?_) (fun hg114 => ?_)
                · -- 114 is True
                  refine wl_unwanted rfl rfl rfl rfl rfl rfl rfl rfl ?_
                  refine wl_unwanted rfl rfl rfl rfl rfl rfl rfl rfl ?_
                  refine wl_det rfl rfl rfl (op_pick_t rfl rfl) ?_
                  refine wl_nil ?_
                  refine st_tn ?_
                  exact cut_done1 [3, 21, 7, 25, 8, 31, 10, 37, 14, 96] hK rfl (by first | (rw [decide_eq_decide]; omega) | (symm; rw [decide_eq_false_iff_not]; omega) | (symm; rw [decide_eq_true_iff]; omega) | (simp; done) | (simp; omega) | (simp [*]; done) | (simp [*]; omega)) (by rfl) rfl rfl
                · -- 114 is False
                  refine wl_wanted_det rfl rfl rfl rfl rfl rfl rfl (op_move rfl) ?_
                  refine wl_wanted_det rfl rfl rfl rfl rfl rfl rfl (op_gtr rfl rfl) ?_
                  refine wl_det rfl rfl rfl (op_pick_f rfl rfl) ?_
                  refine wl_nil ?_
                  refine st_tn ?_
                  exact cut_done1 [3, 21, 7, 25, 8, 31, 10, 37, 14, 96] hK rfl (by first | (rw [decide_eq_decide]; omega) | (symm; rw [decide_eq_false_iff_not]; omega) | (symm; rw [decide_eq_true_iff]; omega) | (simp; done) | (simp; omega) | (simp [*]; done) | (simp [*]; omega)) (by rfl) rfl rfl
              · -- behind r19
                show W _ _ _ _ _ [(117, _), (2, _), (7, _), (12, _), (13, _)] [(3, _), (21, _), (7, _), (25, _), (8, _), (31, _), (10, _), (37, _), (14, _), (96, _)] _
                refine w_cond_d rfl (fun hc117 => ?_) (fun hc117 => ?_)
                · -- c117.t
                  have hM : movE k sz = 2 := by unfold movE; rw [if_pos hc117]
                  refine w_seq ?_
                  refine w_region ?_
                  refine wl_det rfl rfl rfl (op_move rfl) ?_
                  refine wl_det rfl rfl rfl (op_val (v' := .bool true) (by rw [hM]; rfl) (op_eql rfl rfl)) ?_
                  refine wl_det rfl rfl rfl (op_assign rfl) ?_
                  refine wl_nil ?_
                  refine st_tn ?_
                  refine w_ret ?_
                  refine st_tr ?_
                  refine st_ret (vs := [_]) [] Try.results6 ⟨rfl, trivial⟩ rfl ?_
                  refine ⟨_, rfl, ?_⟩
                  exact ⟨rfl, rfl⟩
                · -- c117.f
                  refine w_skip ?_
                  refine st_tn ?_
                  refine w_seq ?_
                  refine w_seq ?_
                  refine w_region ?_
                  refine wl_det rfl rfl rfl (op_fieldAddr (off := 2) rfl tF48_2j) ?_
                  refine wl_det rfl rfl rfl (op_load1 rfl tO3j (Ent.lab (l := 7) rfl (says_cel 2))) ?_
                  refine wl_det rfl rfl rfl (op_eql rfl rfl) ?_
                  refine wl_nil ?_
                  refine st_tn ?_
                  refine w_cond_d rfl (fun hc122 => ?_) (fun hc122 => ?_)
                  · -- c122.t
                    have hM : movE k sz = 12 := by unfold movE; rw [if_neg hc117, if_pos hc122]
                    refine w_seq ?_
                    refine w_region ?_
                    refine wl_det rfl rfl rfl (op_move rfl) ?_
                    refine wl_det rfl rfl rfl (op_val (v' := .bool true) (by rw [hM]; rfl) (op_eql rfl rfl)) ?_
                    refine wl_det rfl rfl rfl (op_assign rfl) ?_
                    refine wl_nil ?_
                    refine st_tn ?_
                    refine w_ret ?_
                    refine st_tr ?_
                    refine st_ret (vs := [_]) [] Try.results6 ⟨rfl, trivial⟩ rfl ?_
                    refine ⟨_, rfl, ?_⟩
                    exact ⟨rfl, rfl⟩
                  · -- c122.f
                    have hM : movE k sz = 0 := by unfold movE; rw [if_neg hc117, if_neg hc122]
                    obtain ⟨w, rfl⟩ := Int.eq_ofNat_of_zero_le (show 0 ≤ sz by omega)
                    refine w_skip ?_
                    refine st_tn ?_
                    refine w_seq ?_
                    refine w_region ?_
                    refine wl_det rfl rfl rfl (op_assign rfl) ?_
                    refine wl_nil ?_
                    refine st_tn ?_
                    refine w_seq ?_
                    refine w_seq ?_
                    refine w_region ?_
                    refine wl_det rfl rfl rfl (op_assign rfl) ?_
                    refine wl_nil ?_
                    refine st_tn ?_
                    refine w_block ?_
                    refine w_emp 16 (slO_nil 3 1) ?_
                    refine w_loopQ (X := List Int × Option Addr × Nat × Nat) (fun z => z.2.2.2 ≤ L.length ∧ z.1 = movL L w z.2.2.2) (fun z => [(16, .slice (z.2.1) (z.1).length (z.2.2.1)), (17, .int .i64 (z.2.2.2))]) (fun z => [(16, slW 3 encZ 1 (.slice (z.2.1) (z.1).length (z.2.2.1)) (z.1))]) (fun z => L.length - z.2.2.2) (([], none, 0, 0)) [(2, _), (7, _), (12, _), (13, _)] [(3, _), (21, _), (7, _), (25, _), (8, _), (31, _), (10, _), (37, _), (14, _), (96, _)] [16, 3, 21, 7, 25, 8, 31, 10, 37, 14, 96] rfl (rfl) (.cons rfl (.cons rfl (.nil _))) (.cons rfl (.cons rfl (.cons rfl (.cons rfl (.nil _))))) (by
                        try dsimp only
                        exact ⟨Nat.zero_le _, rfl⟩) ?_
                    rintro ⟨want, a_want, c_want, i⟩ ⟨hi, hw⟩
                    refine w_norm2 (by dsimp only [List.cons_append, List.nil_append]) (by dsimp only [List.cons_append, List.nil_append]) ?_
                    try dsimp only at hi hw ⊢
                    refine w_seq ?_
                    refine w_seq ?_
                    refine w_region ?_
                    refine wl_det rfl rfl rfl (op_move rfl) ?_
                    refine wl_det rfl rfl rfl (op_fieldAddr (off := 6) rfl tF48_5j) ?_
                    refine wl_det rfl rfl rfl (op_load1 rfl tO25j (Ent.lab (l := 7) rfl (says_cel 6))) ?_
                    refine wl_det rfl rfl rfl (op_lenT rfl tS25j (Sl.ent (Sl.lab 21 rfl (by first | (simp [maxLen]; done) | (unfold maxLen; omega))))) ?_
                    refine wl_det rfl rfl rfl (op_lss rfl rfl) ?_
                    refine wl_nil ?_
                    refine st_tn ?_
                    refine w_cond_d rfl (fun hc129 => ?_) (fun hc129 => ?_)
                    · -- c129.t
                      obtain ⟨x, hx⟩ := getE (l := L) (i := i) (by omega)
                      have hwl : want.length = i := by rw [hw]; simp [movL]
                      refine w_skip ?_
                      refine st_tn ?_
                      refine w_seq ?_
                      refine w_block ?_
                      refine w_seq ?_
                      refine w_region ?_
                      refine wl_det rfl rfl rfl (op_assign rfl) ?_
                      refine wl_nil ?_
                      refine st_tn ?_
                      refine w_seq ?_
                      refine w_seq ?_
                      refine w_region ?_
                      refine wl_det rfl rfl rfl (op_move rfl) ?_
                      refine wl_det rfl rfl rfl (op_move rfl) ?_
                      refine wl_det rfl rfl rfl (op_sub' rfl rfl (by omega)) ?_
                      refine wl_det rfl rfl rfl (op_add' rfl rfl (by omega)) ?_
                      refine wl_det rfl rfl rfl (op_val (v' := .int .i64 ((i + 1 - w : Nat) : Int)) (by congr 1; omega) (op_max rfl rfl)) ?_
                      refine wl_det rfl rfl rfl (op_assign rfl) ?_
                      refine wl_nil ?_
                      refine st_tn ?_
                      refine w_block ?_
                      refine w_loopQ (X := Int × Nat) (fun z => (i + 1 - w ≤ z.2 ∧ z.2 ≤ i + 1) ∧ z.1 = ((L.take z.2).drop (i + 1 - w)).sum ∧ 0 ≤ z.1 ∧ z.1 ≤ z.2 * 255) (fun z => [(18, .int .i64 (z.1)), (19, .int .i64 (z.2))]) (fun _ => []) (fun z => i + 1 - z.2) ((_, i + 1 - w)) [(2, _), (7, _), (12, _), (13, _), (16, _), (17, _)] [(16, _), (3, _), (21, _), (7, _), (25, _), (8, _), (31, _), (10, _), (37, _), (14, _), (96, _)] [16, 3, 21, 7, 25, 8, 31, 10, 37, 14, 96] rfl (rfl) (.cons rfl (.cons rfl (.nil _))) (.cons rfl (.cons rfl (.cons rfl (.cons rfl (.cons rfl (.cons rfl (.nil _))))))) (by
                          try dsimp only
                          refine ⟨⟨Nat.le_refl _, by omega⟩, ?_, by omega, by omega⟩
                          rw [List.drop_of_length_le (by rw [List.length_take]; omega)]; rfl) ?_
                      rintro ⟨n, j⟩ ⟨⟨hj0, hj1⟩, hn, hn0, hn1⟩
                      refine w_norm2 (by dsimp only [List.cons_append, List.nil_append]) (by dsimp only [List.cons_append, List.nil_append]) ?_
                      try dsimp only at hj0 hj1 hn hn0 hn1 ⊢
                      refine w_seq ?_
                      refine w_seq ?_
                      refine w_region ?_
                      refine wl_det rfl rfl rfl (op_move rfl) ?_
                      refine wl_det rfl rfl rfl (op_move rfl) ?_
                      refine wl_det rfl rfl rfl (op_leq rfl rfl) ?_
                      refine wl_nil ?_
                      refine st_tn ?_
                      refine w_cond_d rfl (fun hc139 => ?_) (fun hc139 => ?_)
                      · -- c139.t
                        obtain ⟨z, hz⟩ := getE (l := L) (i := j) (by omega)
                        have hzb := hv8 z (List.mem_of_getElem? hz)
                        refine w_skip ?_
                        refine st_tn ?_
                        refine w_seq ?_
                        refine w_block ?_
                        refine w_region ?_
                        refine wl_det rfl rfl rfl (op_move rfl) ?_
                        refine wl_det rfl rfl rfl (op_fieldAddr (off := 6) rfl tF48_5j) ?_
                        refine wl_det rfl rfl rfl (op_load1 rfl tO25j (Ent.lab (l := 7) rfl (says_cel 6))) ?_
                        refine wl_det rfl rfl rfl (op_move rfl) ?_
                        refine wl_det rfl rfl rfl (op_idx rfl rfl tS25j (Sl.ent (Sl.lab 21 rfl (by first | (simp [maxLen]; done) | (unfold maxLen; omega)))) (by omega)) ?_
                        refine wl_det rfl rfl rfl (op_ldx rfl tO3j (Sl.lab 21 rfl (by first | (simp [maxLen]; done) | (unfold maxLen; omega))) (by assumption) (by rfl)) ?_
                        refine wl_det rfl rfl rfl (op_add' rfl rfl (by omega)) ?_
                        refine wl_det rfl rfl rfl (op_assign rfl) ?_
                        refine wl_nil ?_
                        refine st_bn ?_
                        refine st_tn ?_
                        refine w_region ?_
                        refine wl_det rfl rfl rfl (op_move rfl) ?_
                        refine wl_det rfl rfl rfl (op_add' rfl rfl (by omega)) ?_
                        refine wl_det rfl rfl rfl (op_assign rfl) ?_
                        refine wl_nil ?_
                        refine st_roundQ (x := (n, j)) ((_, j + 1)) [16, 3, 21, 7, 25, 8, 31, 10, 37, 14, 96] rfl (rfl) (.cons rfl (.cons rfl (.nil _))) (.cons rfl (.cons rfl (.cons rfl (.cons rfl (.cons rfl (.cons rfl (.nil _))))))) (by
                            try dsimp only
                            refine ⟨⟨by omega, by omega⟩, ?_, by omega, by omega⟩
                            rw [take_snoc hz, List.drop_append_of_le_length (by rw [List.length_take]; omega), List.sum_append, ← hn]; simp) (by
                            try dsimp only
                            omega) 
                      · -- c139.f
                        obtain rfl : j = i + 1 := by omega
                        have hnew : want ++ [n] = movL L w (i + 1) := by
                          rw [movL_succ, ← hw, mov_wsum (by omega) _ (by omega), hn]; rfl
                        refine w_exit ?_
                        refine st_te ?_
                        refine st_te ?_
                        refine st_be ?_
                        refine st_tn ?_
                        refine w_region ?_
                        refine wl_det rfl rfl rfl (op_move rfl) ?_
                        refine wl_det rfl rfl rfl (op_move rfl) ?_
                        refine wl_op [] rfl rfl rfl rfl (op_buildSlice (enc := encZ) (l := [_]) (lab := 151) tL25_1j rfl rfl (fun _ => rfl) rfl) ?_
                        rintro _ _ ⟨a151, c151, rfl, rfl⟩
                        refine wl_op [16] rfl rfl rfl rfl (op_append (lab := 16) (lab' := 152) rfl rfl tP25j enc1Z (Sl.lab 151 rfl (by simp [maxLen])) (by first | omega | (simp; done) | (simp; omega) | (simp [*]; omega)) (by first | omega | (simp; done) | (simp; omega) | (simp [*]; omega))) ?_
                        rintro _ _ ⟨a152, c152, rfl, rfl⟩
                        refine wl_det rfl rfl rfl (op_assign rfl) ?_
                        refine wl_nil ?_
                        refine st_bn ?_
                        refine st_tn ?_
                        refine w_region ?_
                        refine wl_det rfl rfl rfl (op_move rfl) ?_
                        refine wl_det rfl rfl rfl (op_add' rfl rfl (by omega)) ?_
                        refine wl_det rfl rfl rfl (op_assign rfl) ?_
                        refine wl_nil ?_
                        refine st_roundQ (x := (want, a_want, c_want, i)) ((_, _, _, i + 1)) [152, 3, 21, 7, 25, 8, 31, 10, 37, 14, 96] rfl (rfl) (.cons rfl (.cons rfl (.nil _))) (.cons rfl (.cons rfl (.cons rfl (.cons rfl (.nil _))))) (by
                            try dsimp only
                            exact ⟨by omega, hnew⟩) (by
                            try dsimp only
                            omega) 
                    · -- c129.f
                      have hwl : want.length = i := by rw [hw]; simp [movL]
                      refine w_exit ?_
                      refine st_te ?_
                      refine st_te ?_
                      refine st_be ?_
                      refine st_tn ?_
                      refine w_seq ?_
                      refine w_region ?_
                      refine wl_det rfl rfl rfl (op_move rfl) ?_
                      refine wl_det rfl rfl rfl (op_val (v' := .bool true) (by rw [hM]; rfl) (op_eql rfl rfl)) ?_
                      refine wl_det rfl rfl rfl (op_move rfl) ?_
                      refine wl_wanted_det rfl rfl rfl rfl rfl rfl rfl (op_move rfl) ?_
                      refine wl_wanted_det rfl rfl rfl rfl rfl rfl rfl (op_move rfl) ?_
                      refine wl_wanted_det rfl rfl rfl rfl rfl rfl rfl (op_val (v' := .bool true) (by 
                            refine congrArg Value.bool (decide_eq_true ?_)
                            rw [hm37, hM, if_pos rfl, hw, show i = L.length by omega]) (op_fn Try.func22 rfl rfl rfl (ints_any (Sl.lab 37 rfl (by first | (simp [maxLen]; done) | (unfold maxLen; omega))) (Sl.lab 16 rfl (by first | (simp [maxLen]; done) | (unfold maxLen; omega)))))) ?_
                      refine wl_det rfl rfl rfl (op_pick_t rfl rfl) ?_
                      refine wl_det rfl rfl rfl (op_assign rfl) ?_
                      refine wl_nil ?_
                      refine st_tn ?_
                      refine w_ret ?_
                      refine st_ret (vs := [_]) [] Try.results6 ⟨rfl, trivial⟩ rfl ?_
                      refine ⟨_, rfl, ?_⟩
                      exact ⟨rfl, rfl⟩

end Go.Proofs.Ytbgddblfalahfaa
