/- The law BitmapRange (layer 5). Conditions: none. -/
import Derived.Test.YtkknlfhncheflaaB17
namespace Go.Proofs.Ytkknlfhncheflaa
open Go Go.SL Go.RowKit Go.BitM
set_option linter.unusedVariables false
set_option linter.unusedSimpArgs false
theorem tA26r : aggB Try.prog 26 1 = true := by kernel_rfl
theorem tB26r : placesB Try.prog 26 = some ([(0, 1)], [Value.slice none 0 0]) := by kernel_rfl
theorem tC37r : arrZB Try.prog 37 2 1 = some [Value.int .i64 0, Value.int .i64 0] := by kernel_rfl
theorem tL38_1r : zerosB Try.prog 38 37 2 1 = some [Value.int .i64 0, Value.int .i64 0] := by kernel_rfl
theorem tN26r : (Try.prog.info? 26).bind (·.zero) = some (Value.agg #[Value.slice none 0 0]) := by kernel_rfl
theorem tZ26r : (Try.prog.info? 26).map (·.size) = some 1 := by kernel_rfl

-- CALL sleuth/sleuthlaw05.known known_any
set_option maxHeartbeats 2000000 in
set_option maxRecDepth 100000 in
theorem lawRange_any {σ : World} {F : List Res} (x y : Int) (hx : -9223372036854775808 ≤ x ∧ x ≤ 9223372036854775807) (hy : -9223372036854775808 ≤ y ∧ y ≤ 9223372036854775807) :
    FnT Try.prog σ F 4 [.int .i64 x, .int .i64 y] [] (fun u ρ => u = .bool true ∧ ρ = []) := by
  refine fn_of 104 Try.func4 rfl Try.ntmps4 rfl ?_
  refine w_seq ?_
  refine w_region ?_
  refine wl_det rfl rfl rfl (op_assign rfl) ?_
  refine wl_nil ?_
  refine st_tn ?_
  refine w_seq ?_
  refine w_seq ?_
  refine w_region ?_
  refine wl_det rfl rfl rfl (op_fn Try.func13 rfl rfl rfl (known_any)) ?_
  refine wl_det rfl rfl rfl (op_not rfl) ?_
  refine wl_nil ?_
  refine st_tn ?_
  refine w_cond_f (rfl) ?_
  refine w_skip ?_
  refine st_tn ?_
  refine w_seq ?_
  refine w_region ?_
  refine wl_det rfl rfl rfl (op_move rfl) ?_
  refine wl_det rfl rfl rfl (op_move rfl) ?_
  refine wl_op [] rfl rfl rfl rfl (op_fn Try.func18 rfl rfl rfl (range_s 14 x y)) ?_
  rintro _ _ ⟨m1, a1, c1, hw1, hi1, hm1, rfl, rfl⟩
  refine wl_det rfl rfl rfl (op_move rfl) ?_
  refine wl_det rfl rfl rfl (op_extract rfl rfl) ?_
  refine wl_det rfl rfl rfl (op_extract rfl rfl) ?_
  refine wl_op [] rfl rfl rfl rfl (op_alloc (l := 5) tN26r) ?_
  rintro _ _ ⟨b5, rfl, rfl⟩
  refine wl_op0 [5] rfl rfl rfl (op_store rfl rfl tZ26r rfl rfl (Nat.le_of_ble_eq_true rfl)) ?_
  rintro _ _ ⟨rfl, rfl⟩
  refine wl_det rfl rfl rfl (op_assign rfl) ?_
  refine wl_nil ?_
  refine st_tn ?_
  refine w_seq ?_
  refine w_region ?_
  refine wl_det rfl rfl rfl (op_build tB26r rfl rfl) ?_
  refine wl_det rfl rfl rfl (op_move rfl) ?_
  refine wl_op [] rfl rfl rfl rfl (op_fn Try.func19 rfl rfl rfl (not_s (rl := []) 20 y slnil WF.nil inB_nil)) ?_
  rintro _ _ ⟨m2, a2, c2, hw2, hi2, hm2, rfl, rfl⟩
  refine wl_det rfl rfl rfl (op_move rfl) ?_
  refine wl_det rfl rfl rfl (op_extract rfl rfl) ?_
  refine wl_det rfl rfl rfl (op_extract rfl rfl) ?_
  refine wl_op [] rfl rfl rfl rfl (op_alloc (l := 7) tN26r) ?_
  rintro _ _ ⟨b7, rfl, rfl⟩
  refine wl_op0 [7] rfl rfl rfl (op_store rfl rfl tZ26r rfl rfl (Nat.le_of_ble_eq_true rfl)) ?_
  rintro _ _ ⟨rfl, rfl⟩
  refine wl_det rfl rfl rfl (op_assign rfl) ?_
  refine wl_nil ?_
  refine st_tn ?_
  refine w_seq ?_
  refine w_seq ?_
  have hl1 := wf_len hw1 hi1
  have hl2 := wf_len hw2 hi2
  refine w_cutL [(54, .bool false)] [0, 1, 5, 6] [14, 5, 20, 7] rfl (fun K' hK => ?_) ?_
  · -- cut r5
    by_cases hyr : 0 ≤ y ∧ y ≤ 1048576
    · -- hyr+
      rw [if_pos hyr]
      have hr2 : rows m2 = upto 0 (y - 1) := SS.ext (ss_rows hw2) (ss_upto _ _) fun n => by
        rw [mem_rows, hm2, mem_upto]; simp only [mem_nil, not_false_eq_true, and_true]; omega
      have hlen : (((rows m2).length : Nat) : Int) = y := by rw [hr2, length_upto]; omega
      refine w_region ?_
      refine wl_det rfl rfl rfl (op_move rfl) ?_
      refine wl_det rfl rfl rfl (op_eql rfl rfl) ?_
      refine wl_det rfl rfl rfl (op_move rfl) ?_
      refine wl_wanted_det rfl rfl rfl rfl rfl rfl rfl (op_move rfl) ?_
      refine wl_wanted_det rfl rfl rfl rfl rfl rfl rfl (op_lss rfl rfl) ?_
      refine wl_wanted_det rfl rfl rfl rfl rfl rfl rfl (op_move rfl) ?_
      refine wl_gsplit (t := 28) rfl (fun hg28 => ?_) (fun hg28 => ?_)
      · -- 28 is True
        exfalso; omega
      · -- 28 is False
        refine wl_wanted_det rfl rfl rfl rfl rfl rfl rfl (op_move rfl) ?_
        refine wl_wanted_det rfl rfl rfl rfl rfl rfl rfl (op_gtr rfl rfl) ?_
        refine wl_wanted_det rfl rfl rfl rfl rfl rfl rfl (op_pick_f rfl rfl) ?_
        refine wl_wanted_det rfl rfl rfl rfl rfl rfl rfl (op_move rfl) ?_
        refine wl_gsplit (t := 32) rfl (fun hg32 => ?_) (fun hg32 => ?_)
        · -- 32 is True
          exfalso; omega
        · -- 32 is False
          refine wl_wanted_det rfl rfl rfl rfl rfl rfl rfl (op_loadA rfl tA26r (Ent.lab (l := 7) rfl (says_cel 0)) (Nat.le_of_ble_eq_true rfl)) ?_
          refine wl_wanted_det rfl rfl rfl rfl rfl rfl rfl (op_fn Try.func20 rfl rfl rfl (len_s (Sl.lab 20 rfl (by unfold maxLen; omega)) hw2 hi2)) ?_
          refine wl_wanted_det rfl rfl rfl rfl rfl rfl rfl (op_move rfl) ?_
          refine wl_wanted_det rfl rfl rfl rfl rfl rfl rfl (op_neq rfl rfl) ?_
          refine wl_wanted_det rfl rfl rfl rfl rfl rfl rfl (op_pick_f rfl rfl) ?_
          refine wl_det rfl rfl rfl (op_pick_t rfl rfl) ?_
          refine wl_det rfl rfl rfl (op_move rfl) ?_
          refine wl_gsplit (t := 39) rfl (fun hg39 => ?_) (fun hg39 => ?_)
          · -- 39 is True
            exfalso; omega
          · -- 39 is False
            refine wl_wanted_det rfl rfl rfl rfl rfl rfl rfl (op_move rfl) ?_
            refine wl_wanted_det rfl rfl rfl rfl rfl rfl rfl (op_neq rfl rfl) ?_
            refine wl_wanted_det rfl rfl rfl rfl rfl rfl rfl (op_move rfl) ?_
            refine wl_gsplit (t := 42) rfl (fun hg42 => ?_) (fun hg42 => ?_)
            · -- 42 is True
              exfalso; omega
            · -- 42 is False
              refine wl_unwanted rfl rfl rfl rfl rfl rfl rfl rfl ?_
              refine wl_unwanted rfl rfl rfl rfl rfl rfl rfl rfl ?_
              refine wl_unwanted rfl rfl rfl rfl rfl rfl rfl rfl ?_
              refine wl_unwantedU rfl rfl rfl rfl rfl rfl rfl ?_
              refine wl_unwantedU rfl rfl rfl rfl rfl rfl rfl ?_
              refine wl_unwantedU rfl rfl rfl rfl rfl rfl rfl ?_
              refine wl_unwantedU rfl rfl rfl rfl rfl rfl rfl ?_
              refine wl_unwantedU rfl rfl rfl rfl rfl rfl rfl ?_
              refine wl_unwantedU rfl rfl rfl rfl rfl rfl rfl ?_
              refine wl_unwanted rfl rfl rfl rfl rfl rfl rfl rfl ?_
              refine wl_wanted_det rfl rfl rfl rfl rfl rfl rfl (op_pick_f rfl rfl) ?_
              refine wl_det rfl rfl rfl (op_pick_f rfl rfl) ?_
              refine wl_nil ?_
              refine st_tn ?_
              exact cut_done (L' := [14, 5, 20, 7]) hK (by intro q hq; simp only [List.mem_cons, List.not_mem_nil, or_false] at hq; subst hq; first | rfl | (show some (Value.bool (decide _)) = some _; rw [decide_eq_false (by omega)])) (by rfl) rfl rfl
    · -- hyr-
      rw [if_neg hyr]
      refine w_region ?_
      refine wl_det rfl rfl rfl (op_move rfl) ?_
      refine wl_det rfl rfl rfl (op_eql rfl rfl) ?_
      refine wl_det rfl rfl rfl (op_move rfl) ?_
      refine wl_gsplit (t := 25) rfl (fun hg25 => ?_) (fun hg25 => ?_)
      · -- 25 is True
        exfalso; omega
      · -- 25 is False
        refine wl_unwanted rfl rfl rfl rfl rfl rfl rfl rfl ?_
        refine wl_unwanted rfl rfl rfl rfl rfl rfl rfl rfl ?_
        refine wl_unwanted rfl rfl rfl rfl rfl rfl rfl rfl ?_
        refine wl_unwantedU rfl rfl rfl rfl rfl rfl rfl ?_
        refine wl_unwantedU rfl rfl rfl rfl rfl rfl rfl ?_
        refine wl_unwanted rfl rfl rfl rfl rfl rfl rfl rfl ?_
        refine wl_unwanted rfl rfl rfl rfl rfl rfl rfl rfl ?_
        refine wl_unwantedU rfl rfl rfl rfl rfl rfl rfl ?_
        refine wl_unwantedU rfl rfl rfl rfl rfl rfl rfl ?_
        refine wl_unwantedU rfl rfl rfl rfl rfl rfl rfl ?_
        refine wl_unwantedU rfl rfl rfl rfl rfl rfl rfl ?_
        refine wl_unwanted rfl rfl rfl rfl rfl rfl rfl rfl ?_
        refine wl_det rfl rfl rfl (op_pick_f rfl rfl) ?_
        refine wl_det rfl rfl rfl (op_move rfl) ?_
        refine wl_wanted_det rfl rfl rfl rfl rfl rfl rfl (op_move rfl) ?_
        refine wl_wanted_det rfl rfl rfl rfl rfl rfl rfl (op_neq rfl rfl) ?_
        refine wl_wanted_det rfl rfl rfl rfl rfl rfl rfl (op_move rfl) ?_
        refine wl_gsplit (t := 42) rfl (fun hg42 => ?_) (fun hg42 => ?_)
        · -- 42 is True
          refine wl_wanted_det rfl rfl rfl rfl rfl rfl rfl (op_move rfl) ?_
          refine wl_wanted_det rfl rfl rfl rfl rfl rfl rfl (op_neq rfl rfl) ?_
          refine wl_wanted_det rfl rfl rfl rfl rfl rfl rfl (op_move rfl) ?_
          refine wl_gsplit (t := 45) rfl (fun hg45 => ?_) (fun hg45 => ?_)
          · -- 45 is True
            exfalso; omega
          · -- 45 is False
            refine wl_wanted_det rfl rfl rfl rfl rfl rfl rfl (op_move rfl) ?_
            refine wl_wanted_det rfl rfl rfl rfl rfl rfl rfl (op_geq rfl rfl) ?_
            refine wl_wanted_det rfl rfl rfl rfl rfl rfl rfl (op_move rfl) ?_
            refine wl_gsplit (t := 48) rfl (fun hg48 => ?_) (fun hg48 => ?_)
            · -- 48 is True
              refine wl_wanted_det rfl rfl rfl rfl rfl rfl rfl (op_move rfl) ?_
              refine wl_wanted_det rfl rfl rfl rfl rfl rfl rfl (op_leq rfl rfl) ?_
              refine wl_wanted_det rfl rfl rfl rfl rfl rfl rfl (op_pick_t rfl rfl) ?_
              refine wl_wanted_det rfl rfl rfl rfl rfl rfl rfl (op_pick_f rfl rfl) ?_
              refine wl_wanted_det rfl rfl rfl rfl rfl rfl rfl (op_pick_t rfl rfl) ?_
              refine wl_det rfl rfl rfl (op_pick_f rfl rfl) ?_
              refine wl_nil ?_
              refine st_tn ?_
              exact cut_done (L' := [14, 5, 20, 7]) hK (by intro q hq; simp only [List.mem_cons, List.not_mem_nil, or_false] at hq; subst hq; first | rfl | (show some (Value.bool (decide _)) = some _; rw [decide_eq_false (by omega)])) (by rfl) rfl rfl
            · -- 48 is False
              refine wl_unwanted rfl rfl rfl rfl rfl rfl rfl rfl ?_
              refine wl_unwanted rfl rfl rfl rfl rfl rfl rfl rfl ?_
              refine wl_wanted_det rfl rfl rfl rfl rfl rfl rfl (op_pick_f rfl rfl) ?_
              refine wl_wanted_det rfl rfl rfl rfl rfl rfl rfl (op_pick_f rfl rfl) ?_
              refine wl_wanted_det rfl rfl rfl rfl rfl rfl rfl (op_pick_t rfl rfl) ?_
              refine wl_det rfl rfl rfl (op_pick_f rfl rfl) ?_
              refine wl_nil ?_
              refine st_tn ?_
              exact cut_done (L' := [14, 5, 20, 7]) hK (by intro q hq; simp only [List.mem_cons, List.not_mem_nil, or_false] at hq; subst hq; first | rfl | (show some (Value.bool (decide _)) = some _; rw [decide_eq_false (by omega)])) (by rfl) rfl rfl
        · -- 42 is False
          exfalso; omega
  · -- behind r5
    show W _ _ _ _ _ [(54, _), (0, _), (1, _), (5, _), (6, _)] [(14, _), (5, _), (20, _), (7, _)] _
    refine w_cond_f (rfl) ?_
    refine w_skip ?_
    refine st_tn ?_
    refine w_seq ?_
    refine w_seq ?_
    refine w_cutL [(68, .bool (decide (x < 0 ∨ x > 1048576 ∨ y < 0 ∨ y > 1048576)))] [0, 1, 5, 6] [14, 5, 20, 7] rfl (fun K' hK => ?_) ?_
    · -- cut r7
      refine w_region ?_
      refine wl_det rfl rfl rfl (op_move rfl) ?_
      refine wl_det rfl rfl rfl (op_lss rfl rfl) ?_
      refine wl_det rfl rfl rfl (op_move rfl) ?_
      refine wl_gsplit (t := 57) rfl (fun hg57 => ?_) (fun hg57 => ?_)
      · -- 57 is True
        refine wl_unwanted rfl rfl rfl rfl rfl rfl rfl rfl ?_
        refine wl_unwanted rfl rfl rfl rfl rfl rfl rfl rfl ?_
        refine wl_det rfl rfl rfl (op_pick_t rfl rfl) ?_
        refine wl_det rfl rfl rfl (op_move rfl) ?_
        refine wl_unwanted rfl rfl rfl rfl rfl rfl rfl rfl ?_
        refine wl_unwanted rfl rfl rfl rfl rfl rfl rfl rfl ?_
        refine wl_det rfl rfl rfl (op_pick_t rfl rfl) ?_
        refine wl_det rfl rfl rfl (op_move rfl) ?_
        refine wl_unwanted rfl rfl rfl rfl rfl rfl rfl rfl ?_
        refine wl_unwanted rfl rfl rfl rfl rfl rfl rfl rfl ?_
        refine wl_det rfl rfl rfl (op_pick_t rfl rfl) ?_
        refine wl_nil ?_
        refine st_tn ?_
        exact cut_done1 [14, 5, 20, 7] hK rfl (by first | (simp; done) | (simp; omega) | (simp [*]; done) | (simp [*]; omega)) (by rfl) rfl rfl
      · -- 57 is False
        refine wl_wanted_det rfl rfl rfl rfl rfl rfl rfl (op_move rfl) ?_
        refine wl_wanted_det rfl rfl rfl rfl rfl rfl rfl (op_gtr rfl rfl) ?_
        refine wl_det rfl rfl rfl (op_pick_f rfl rfl) ?_
        refine wl_det rfl rfl rfl (op_move rfl) ?_
        refine wl_gsplit (t := 61) rfl (fun hg61 => ?_) (fun hg61 => ?_)
        · -- 61 is True
          refine wl_unwanted rfl rfl rfl rfl rfl rfl rfl rfl ?_
          refine wl_unwanted rfl rfl rfl rfl rfl rfl rfl rfl ?_
          refine wl_det rfl rfl rfl (op_pick_t rfl rfl) ?_
          refine wl_det rfl rfl rfl (op_move rfl) ?_
          refine wl_unwanted rfl rfl rfl rfl rfl rfl rfl rfl ?_
          refine wl_unwanted rfl rfl rfl rfl rfl rfl rfl rfl ?_
          refine wl_det rfl rfl rfl (op_pick_t rfl rfl) ?_
          refine wl_nil ?_
          refine st_tn ?_
          exact cut_done1 [14, 5, 20, 7] hK rfl (by first | (simp; done) | (simp; omega) | (simp [*]; done) | (simp [*]; omega)) (by rfl) rfl rfl
        · -- 61 is False
          refine wl_wanted_det rfl rfl rfl rfl rfl rfl rfl (op_move rfl) ?_
          refine wl_wanted_det rfl rfl rfl rfl rfl rfl rfl (op_lss rfl rfl) ?_
          refine wl_det rfl rfl rfl (op_pick_f rfl rfl) ?_
          refine wl_det rfl rfl rfl (op_move rfl) ?_
          refine wl_gsplit (t := 65) rfl (fun hg65 => ?_) (fun hg65 => ?_)
          · -- 65 is True
            refine wl_unwanted rfl rfl rfl rfl rfl rfl rfl rfl ?_
            refine wl_unwanted rfl rfl rfl rfl rfl rfl rfl rfl ?_
            refine wl_det rfl rfl rfl (op_pick_t rfl rfl) ?_
            refine wl_nil ?_
            refine st_tn ?_
            exact cut_done1 [14, 5, 20, 7] hK rfl (by first | (simp; done) | (simp; omega) | (simp [*]; done) | (simp [*]; omega)) (by rfl) rfl rfl
          · -- 65 is False
            refine wl_wanted_det rfl rfl rfl rfl rfl rfl rfl (op_move rfl) ?_
            refine wl_wanted_det rfl rfl rfl rfl rfl rfl rfl (op_gtr rfl rfl) ?_
            refine wl_det rfl rfl rfl (op_pick_f rfl rfl) ?_
            refine wl_nil ?_
            refine st_tn ?_
            exact cut_done1 [14, 5, 20, 7] hK rfl (by first | (simp; done) | (simp; omega) | (simp [*]; done) | (simp [*]; omega)) (by rfl) rfl rfl
    · -- behind r7
      show W _ _ _ _ _ [(68, _), (0, _), (1, _), (5, _), (6, _)] [(14, _), (5, _), (20, _), (7, _)] _
      refine w_cond_d rfl (fun hc68 => ?_) (fun hc68 => ?_)
      · -- c68.t
        have hno : ¬ (0 ≤ x ∧ x ≤ 1048576 ∧ 0 ≤ y ∧ y ≤ 1048576) := by omega
        obtain rfl : m1 = [] := WF.unique hw1 WF.nil hm1 (fun n => ⟨fun h => absurd h (mem_nil n), fun h => absurd h.1 hno⟩)
        rw [if_neg hno]
        refine w_seq ?_
        refine w_region ?_
        refine wl_det rfl rfl rfl (op_move rfl) ?_
        refine wl_det rfl rfl rfl (op_eql rfl rfl) ?_
        refine wl_det rfl rfl rfl (op_move rfl) ?_
        refine wl_wanted_det rfl rfl rfl rfl rfl rfl rfl (op_loadA rfl tA26r (Ent.lab (l := 5) rfl (says_cel 0)) (Nat.le_of_ble_eq_true rfl)) ?_
        refine wl_wanted_det rfl rfl rfl rfl rfl rfl rfl (op_fn Try.func20 rfl rfl rfl (fn_imp (len_s (rl := []) (Sl.lab 14 rfl (by simp [maxLen])) hw1 hi1) (fun u ρ hu => (⟨hu.1, hu.2⟩ : u = .int .i64 0 ∧ ρ = [])))) ?_
        refine wl_wanted_det rfl rfl rfl rfl rfl rfl rfl (op_eql rfl rfl) ?_
        refine wl_det rfl rfl rfl (op_pick_t rfl rfl) ?_
        refine wl_det rfl rfl rfl (op_assign rfl) ?_
        refine wl_nil ?_
        refine st_tn ?_
        refine w_ret ?_
        refine st_tr ?_
        refine st_ret (vs := [_]) [] Try.results4 ⟨rfl, trivial⟩ rfl ?_
        refine ⟨_, rfl, ?_⟩
        exact ⟨rfl, rfl⟩
      · -- c68.f
        have hok : 0 ≤ x ∧ x ≤ 1048576 ∧ 0 ≤ y ∧ y ≤ 1048576 := by omega
        rw [if_pos hok]
        refine w_skip ?_
        refine st_tn ?_
        refine w_seq ?_
        refine w_seq ?_
        refine w_region ?_
        refine wl_det rfl rfl rfl (op_move rfl) ?_
        refine wl_det rfl rfl rfl (op_move rfl) ?_
        refine wl_det rfl rfl rfl (op_geq rfl rfl) ?_
        refine wl_nil ?_
        refine st_tn ?_
        refine w_cond_d rfl (fun hc78 => ?_) (fun hc78 => ?_)
        · -- c78.t
          obtain rfl : m1 = [] := WF.unique hw1 WF.nil hm1 (fun n => ⟨fun h => absurd h (mem_nil n), fun h => by omega⟩)
          refine w_seq ?_
          refine w_region ?_
          refine wl_det rfl rfl rfl (op_move rfl) ?_
          refine wl_det rfl rfl rfl (op_eql rfl rfl) ?_
          refine wl_det rfl rfl rfl (op_move rfl) ?_
          refine wl_wanted_det rfl rfl rfl rfl rfl rfl rfl (op_loadA rfl tA26r (Ent.lab (l := 5) rfl (says_cel 0)) (Nat.le_of_ble_eq_true rfl)) ?_
          refine wl_wanted_det rfl rfl rfl rfl rfl rfl rfl (op_fn Try.func16 rfl rfl rfl (fn_imp (is_any (rl := []) (l := []) (Sl.lab 14 rfl (by simp [maxLen])) slnil hw1 hi1 (by simp)) (fun u ρ hu => (⟨by rw [hu.1]; rfl, hu.2⟩ : u = .bool true ∧ ρ = [])))) ?_
          refine wl_det rfl rfl rfl (op_pick_t rfl rfl) ?_
          refine wl_det rfl rfl rfl (op_assign rfl) ?_
          refine wl_nil ?_
          refine st_tn ?_
          refine w_ret ?_
          refine st_tr ?_
          refine st_ret (vs := [_]) [] Try.results4 ⟨rfl, trivial⟩ rfl ?_
          refine ⟨_, rfl, ?_⟩
          exact ⟨rfl, rfl⟩
        · -- c78.f
          obtain rfl : m1 = [(x, y - 1)] := WF.unique hw1 (WF.upto (by omega)) hm1 (fun n => by simp only [mem_cons, mem_nil, or_false]; omega)
          have hr1 : (((rows [(x, y - 1)]).length : Nat) : Int) = y - x := by show ((upto x (y - 1) ++ []).length : Int) = _; rw [List.append_nil, length_upto]; omega
          refine w_skip ?_
          refine st_tn ?_
          refine w_seq ?_
          refine w_region ?_
          refine wl_det rfl rfl rfl (op_move rfl) ?_
          refine wl_det rfl rfl rfl (op_eql rfl rfl) ?_
          refine wl_det rfl rfl rfl (op_move rfl) ?_
          refine wl_wanted_det rfl rfl rfl rfl rfl rfl rfl (op_loadA rfl tA26r (Ent.lab (l := 5) rfl (says_cel 0)) (Nat.le_of_ble_eq_true rfl)) ?_
          refine wl_wanted_det rfl rfl rfl rfl rfl rfl rfl (op_move rfl) ?_
          refine wl_wanted_det rfl rfl rfl rfl rfl rfl rfl (op_move rfl) ?_
          refine wl_wanted_det rfl rfl rfl rfl rfl rfl rfl (op_sub' rfl rfl (by omega)) ?_
          refine wl_wanted_det rfl rfl rfl rfl rfl rfl rfl (op_buildArr tC37r rfl rfl) ?_
          refine wl_wanted [] rfl rfl rfl rfl rfl rfl rfl rfl (op_buildSlice (enc := encRun) (l := [(_, _)]) (lab := 93) tL38_1r rfl rfl (fun _ => rfl) rfl) ?_
          rintro _ _ ⟨a93, c93, rfl, rfl⟩
          refine wl_wanted_det rfl rfl rfl rfl rfl rfl rfl (op_fn Try.func21 rfl rfl rfl (fn_imp (runs_eq (m := [(x, y - 1)]) (Sl.lab 14 rfl (by simp [maxLen])) (Sl.lab 93 rfl (by simp [maxLen])) (by simp)) (fun u ρ hu => (⟨by rw [hu.1, decide_eq_true rfl], hu.2⟩ : u = .bool true ∧ ρ = [])))) ?_
          refine wl_det rfl rfl rfl (op_pick_t rfl rfl) ?_
          refine wl_det rfl rfl rfl (op_move rfl) ?_
          refine wl_wanted_det rfl rfl rfl rfl rfl rfl rfl (op_loadA rfl tA26r (Ent.lab (l := 5) rfl (says_cel 0)) (Nat.le_of_ble_eq_true rfl)) ?_
          refine wl_wanted_det rfl rfl rfl rfl rfl rfl rfl (op_fn Try.func20 rfl rfl rfl (fn_imp (len_s (Sl.lab 14 rfl (by simp [maxLen])) hw1 hi1) (fun u ρ hu => (⟨by rw [hu.1, hr1], hu.2⟩ : u = .int .i64 (y - x) ∧ ρ = [])))) ?_
          refine wl_wanted_det rfl rfl rfl rfl rfl rfl rfl (op_move rfl) ?_
          refine wl_wanted_det rfl rfl rfl rfl rfl rfl rfl (op_move rfl) ?_
          refine wl_wanted_det rfl rfl rfl rfl rfl rfl rfl (op_sub' rfl rfl (by omega)) ?_
          refine wl_wanted_det rfl rfl rfl rfl rfl rfl rfl (op_eql rfl rfl) ?_
          refine wl_det rfl rfl rfl (op_pick_t rfl rfl) ?_
          refine wl_det rfl rfl rfl (op_assign rfl) ?_
          refine wl_nil ?_
          refine st_tn ?_
          refine w_ret ?_
          refine st_ret (vs := [_]) [] Try.results4 ⟨rfl, trivial⟩ rfl ?_
          refine ⟨_, rfl, ?_⟩
          refine ⟨?_, rfl⟩; simp [retv]

end Go.Proofs.Ytkknlfhncheflaa
