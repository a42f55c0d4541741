/- The law's helper known, and the law SeriesQuantiles (layer 43). Conditions: none. -/
import Derived.Test.YtbgddblfalahfaaS4
namespace Go.Proofs.Ytbgddblfalahfaa
open Go Go.SL Go.RowKit
set_option linter.unusedVariables false
set_option linter.unusedSimpArgs false
theorem tA24e : aggB Try.prog 24 2 = true := by kernel_rfl
theorem tA48e : aggB Try.prog 48 7 = true := by kernel_rfl
theorem tB24e : placesB Try.prog 24 = some ([(0, 1), (1, 1)], [Value.int .i64 0, Value.int .i64 0]) := by kernel_rfl
theorem tB48e : placesB Try.prog 48 = some ([(0, 1), (1, 1), (2, 1), (3, 2), (5, 1), (6, 1)], [Value.string .empty, Value.string .empty, Value.int .i64 0, Value.int .i64 0, Value.int .i64 0, Value.int .i64 0, Value.slice none 0 0]) := by kernel_rfl
theorem tF48_4e : fieldB Try.prog 48 4 5 = true := by kernel_rfl
theorem tF48_5e : fieldB Try.prog 48 5 6 = true := by kernel_rfl
theorem tL25_2e : zerosB Try.prog 25 3 1 2 = some [Value.int .i64 0, Value.int .i64 0] := by kernel_rfl
theorem tL25_3e : zerosB Try.prog 25 3 1 3 = some [Value.int .i64 0, Value.int .i64 0, Value.int .i64 0] := by kernel_rfl
theorem tN48e : (Try.prog.info? 48).bind (·.zero) = some (Value.agg #[Value.string .empty, Value.string .empty, Value.int .i64 0, Value.int .i64 0, Value.int .i64 0, Value.int .i64 0, Value.slice none 0 0]) := by kernel_rfl
theorem tO25e : oneB Try.prog 25 = true := by kernel_rfl
theorem tO3e : oneB Try.prog 3 = true := by kernel_rfl
theorem tZ48e : (Try.prog.info? 48).map (·.size) = some 7 := by kernel_rfl

def kApi : SK := ⟨⟨#[97, 112, 105]⟩, .empty, 1, 0, 0⟩
theorem coarse_known : coarsenR kApi 3 [1, 2, 4] 2 = ⟨kApi, 1, [1, 6], 0⟩ := by kernel_rfl
theorem mov_known : movL [1, 2, 4] 2 3 = [1, 3, 6] := by decide +kernel
theorem good_known : goodB 9 10 := by unfold goodB mkF; decide +kernel
theorem quant_known : quantZ [2, 9, 5] 9 10 = 9 := by
  have hr : rankOf ([2, 9, 5] : List Int).length 9 10 = 3 := by decide
  have hls := length_srt [2, 9, 5]
  obtain ⟨z, hz⟩ := getE (l := srt [2, 9, 5]) (i := (3 - 1 : Int).toNat) (by simp at hls ⊢; omega)
  have h9 := quant_unique (v := 9) (r := 3) (by omega) hz (by decide) (by decide)
  unfold quantZ
  rw [if_neg (by simp), hr, List.getD_eq_getElem?_getD, hz, ← h9]; rfl
set_option maxHeartbeats 2000000 in
set_option maxRecDepth 100000 in
theorem known_any {σ : World} {F : List Res} : FnT Try.prog σ F 16 [] [] (fun u ρ => u = .bool true ∧ ρ = []) := by
  refine fn_of 56 Try.func16 rfl Try.ntmps16 rfl ?_
  refine w_seq ?_
  refine w_region ?_
  refine wl_det rfl rfl rfl (op_assign rfl) ?_
  refine wl_nil ?_
  refine st_tn ?_
  refine w_seq ?_
  refine w_region ?_
  refine wl_op [] rfl rfl rfl rfl (op_buildSlice (enc := encZ) (l := [_, _, _]) (lab := 9) tL25_3e rfl rfl (fun _ => rfl) rfl) ?_
  rintro _ _ ⟨a9, c9, rfl, rfl⟩
  refine wl_det rfl rfl rfl (op_build tB24e rfl rfl) ?_
  refine wl_det rfl rfl rfl (op_val (v' := .tuple #[.int .i64 9, .int .i64 0]) (by rw [if_pos good_known, if_pos good_known, quant_known]) (op_fn Try.func15 rfl rfl rfl (quantile_any (l := [2, 9, 5]) 9 10 (Sl.lab 9 rfl (by simp [maxLen])) (by simp) (by omega) (by omega)))) ?_
  refine wl_det rfl rfl rfl (op_move rfl) ?_
  refine wl_det rfl rfl rfl (op_extract rfl rfl) ?_
  refine wl_det rfl rfl rfl (op_extract rfl rfl) ?_
  refine wl_det rfl rfl rfl (op_assign rfl) ?_
  refine wl_det rfl rfl rfl (op_assign rfl) ?_
  refine wl_nil ?_
  refine st_tn ?_
  refine w_seq ?_
  refine w_region ?_
  refine wl_op [] rfl rfl rfl rfl (op_buildSlice (enc := encZ) (l := [_, _, _]) (lab := 14) tL25_3e rfl rfl (fun _ => rfl) rfl) ?_
  rintro _ _ ⟨a14, c14, rfl, rfl⟩
  refine wl_det rfl rfl rfl (op_build tB48e rfl rfl) ?_
  refine wl_op [] rfl rfl rfl rfl (op_alloc (l := 3) tN48e) ?_
  rintro _ _ ⟨b3, rfl, rfl⟩
  refine wl_op0 [3] rfl rfl rfl (op_store rfl rfl tZ48e (by rfl) (by rfl) (by exact Nat.le_of_ble_eq_true rfl)) ?_
  rintro _ _ ⟨rfl, rfl⟩
  refine wl_nil ?_
  refine st_tn ?_
  refine w_seq ?_
  refine w_region ?_
  refine wl_det rfl rfl rfl (op_loadA rfl tA48e (Ent.lab (l := 3) rfl (says_cel 0)) (Nat.le_of_ble_eq_true rfl)) ?_
  refine wl_op [] rfl rfl rfl rfl (op_fn Try.func24 rfl rfl rfl (show FnT Try.prog _ _ 24 [sr kApi 3 (.slice _ ([1, 2, 4] : List Int).length _), .int .i64 2] [] (SerV ⟨kApi, 1, [1, 6], 0⟩ 18) from coarse_known ▸ coarsen_any 18 kApi 3 2 (Sl.lab 14 rfl (by simp [maxLen])) (by simp) (by omega) (by simp))) ?_
  rintro _ _ ⟨a18, c18, rfl, rfl⟩
  refine wl_det rfl rfl rfl (op_move rfl) ?_
  refine wl_det rfl rfl rfl (op_extract rfl rfl) ?_
  refine wl_det rfl rfl rfl (op_extract rfl rfl) ?_
  refine wl_op [] rfl rfl rfl rfl (op_alloc (l := 4) tN48e) ?_
  rintro _ _ ⟨b4, rfl, rfl⟩
  refine wl_op0 [4] rfl rfl rfl (op_store rfl rfl tZ48e (by rfl) (by rfl) (by exact Nat.le_of_ble_eq_true rfl)) ?_
  rintro _ _ ⟨rfl, rfl⟩
  refine wl_det rfl rfl rfl (op_assign rfl) ?_
  refine wl_nil ?_
  refine st_tn ?_
  refine w_seq ?_
  refine w_region ?_
  refine wl_det rfl rfl rfl (op_loadA rfl tA48e (Ent.lab (l := 3) rfl (says_cel 0)) (Nat.le_of_ble_eq_true rfl)) ?_
  refine wl_op [] rfl rfl rfl rfl (op_fn Try.func25 rfl rfl rfl (moving_any (l := [1, 2, 4]) 23 kApi 3 2 (Sl.lab 14 rfl (by simp [maxLen])) (by simp) (by simp))) ?_
  rintro _ _ ⟨m23, a23, c23, hm23, rfl, rfl⟩
  obtain rfl : m23 = [1, 3, 6] := by rw [hm23, if_pos (by decide)]; exact mov_known
  refine wl_det rfl rfl rfl (op_move rfl) ?_
  refine wl_det rfl rfl rfl (op_extract rfl rfl) ?_
  refine wl_det rfl rfl rfl (op_extract rfl rfl) ?_
  refine wl_det rfl rfl rfl (op_assign rfl) ?_
  refine wl_det rfl rfl rfl (op_assign rfl) ?_
  refine wl_nil ?_
  refine st_tn ?_
  refine w_seq ?_
  refine w_region ?_
  refine wl_det rfl rfl rfl (op_move rfl) ?_
  refine wl_det rfl rfl rfl (op_eql rfl rfl) ?_
  refine wl_det rfl rfl rfl (op_move rfl) ?_
  refine wl_wanted_det rfl rfl rfl rfl rfl rfl rfl (op_move rfl) ?_
  refine wl_wanted_det rfl rfl rfl rfl rfl rfl rfl (op_eql rfl rfl) ?_
  refine wl_det rfl rfl rfl (op_pick_t rfl rfl) ?_
  refine wl_det rfl rfl rfl (op_move rfl) ?_
  refine wl_wanted_det rfl rfl rfl rfl rfl rfl rfl (op_move rfl) ?_
  refine wl_wanted_det rfl rfl rfl rfl rfl rfl rfl (op_eql rfl rfl) ?_
  refine wl_det rfl rfl rfl (op_pick_t rfl rfl) ?_
  refine wl_det rfl rfl rfl (op_move rfl) ?_
  refine wl_wanted_det rfl rfl rfl rfl rfl rfl rfl (op_fieldAddr (off := 5) rfl tF48_4e) ?_
  refine wl_wanted_det rfl rfl rfl rfl rfl rfl rfl (op_load1 rfl tO3e (Ent.lab (l := 4) rfl (says_cel 5))) ?_
  refine wl_wanted_det rfl rfl rfl rfl rfl rfl rfl (op_eql rfl rfl) ?_
  refine wl_det rfl rfl rfl (op_pick_t rfl rfl) ?_
  refine wl_det rfl rfl rfl (op_move rfl) ?_
  refine wl_wanted_det rfl rfl rfl rfl rfl rfl rfl (op_fieldAddr (off := 6) rfl tF48_5e) ?_
  refine wl_wanted_det rfl rfl rfl rfl rfl rfl rfl (op_load1 rfl tO25e (Ent.lab (l := 4) rfl (says_cel 6))) ?_
  refine wl_wanted [] rfl rfl rfl rfl rfl rfl rfl rfl (op_buildSlice (enc := encZ) (l := [_, _]) (lab := 44) tL25_2e rfl rfl (fun _ => rfl) rfl) ?_
  rintro _ _ ⟨a44, c44, rfl, rfl⟩
  refine wl_wanted_det rfl rfl rfl rfl rfl rfl rfl (op_val (v' := .bool true) (by rfl) (op_fn Try.func22 rfl rfl rfl (ints_any (Sl.lab 18 rfl (by simp [maxLen])) (Sl.lab 44 rfl (by simp [maxLen]))))) ?_
  refine wl_det rfl rfl rfl (op_pick_t rfl rfl) ?_
  refine wl_det rfl rfl rfl (op_move rfl) ?_
  refine wl_wanted_det rfl rfl rfl rfl rfl rfl rfl (op_move rfl) ?_
  refine wl_wanted_det rfl rfl rfl rfl rfl rfl rfl (op_eql rfl rfl) ?_
  refine wl_det rfl rfl rfl (op_pick_t rfl rfl) ?_
  refine wl_det rfl rfl rfl (op_move rfl) ?_
  refine wl_wanted_det rfl rfl rfl rfl rfl rfl rfl (op_move rfl) ?_
  refine wl_wanted [] rfl rfl rfl rfl rfl rfl rfl rfl (op_buildSlice (enc := encZ) (l := [_, _, _]) (lab := 53) tL25_3e rfl rfl (fun _ => rfl) rfl) ?_
  rintro _ _ ⟨a53, c53, rfl, rfl⟩
  refine wl_wanted_det rfl rfl rfl rfl rfl rfl rfl (op_val (v' := .bool true) (by rfl) (op_fn Try.func22 rfl rfl rfl (ints_any (Sl.lab 23 rfl (by simp [maxLen])) (Sl.lab 53 rfl (by simp [maxLen]))))) ?_
  refine wl_det rfl rfl rfl (op_pick_t rfl rfl) ?_
  refine wl_det rfl rfl rfl (op_assign rfl) ?_
  refine wl_nil ?_
  refine st_tn ?_
  refine w_ret ?_
  refine st_ret (vs := [_]) [] Try.results16 ⟨rfl, trivial⟩ rfl ?_
  refine ⟨_, rfl, ?_⟩
  exact ⟨rfl, rfl⟩

set_option maxHeartbeats 2000000 in
set_option maxRecDepth 100000 in
theorem lawQuantiles_any {σ : World} {F : List Res} {a : Option Addr} {c : Nat} {l : List Int} (x y : Int) (h : Sl σ F encY 1 (.slice a l.length c) l) (hb : ∀ x ∈ l, 0 ≤ x ∧ x ≤ 255) (hx : -9223372036854775808 ≤ x ∧ x ≤ 9223372036854775807) (hy : -9223372036854775808 ≤ y ∧ y ≤ 9223372036854775807) :
    FnT Try.prog σ F 3 [.slice a l.length c, frac x y] [] (fun u ρ => u = .bool true ∧ ρ = []) := by
  refine fn_of 41 Try.func3 rfl Try.ntmps3 rfl ?_
  have htl : (l.take 30).length ≤ 30 := by rw [List.length_take]; omega
  refine w_seq ?_
  refine w_region ?_
  refine wl_op [] rfl rfl rfl rfl (op_box (T := 24) (l := 3) rfl) ?_
  rintro _ _ ⟨b3, rfl, rfl⟩
  refine wl_det rfl rfl rfl (op_assign rfl) ?_
  refine wl_nil ?_
  refine st_tn ?_
  refine w_seq ?_
  refine w_region ?_
  refine wl_det rfl rfl rfl (op_move rfl) ?_
  refine wl_op [] rfl rfl rfl rfl (op_fn Try.func14 rfl rfl rfl (points_any 9 (by first | exact Sl.app (by assumption) _ | exact Sl.app (Sl.app (by assumption) _) _) (by assumption))) ?_
  rintro _ _ ⟨a9, c9, rfl, rfl⟩
  refine wl_det rfl rfl rfl (op_assign rfl) ?_
  refine wl_nil ?_
  refine st_tn ?_
  refine w_seq ?_
  refine w_region ?_
  refine wl_det rfl rfl rfl (op_move rfl) ?_
  refine wl_det rfl rfl rfl (op_loadA rfl tA24e (Ent.lab (l := 3) rfl (says_cel 0)) (Nat.le_of_ble_eq_true rfl)) ?_
  refine wl_det rfl rfl rfl (op_fn Try.func15 rfl rfl rfl (quantile_any _ _ (Sl.lab 9 rfl (by unfold maxLen; omega)) (by omega) (by omega) (by omega))) ?_
  refine wl_det rfl rfl rfl (op_move rfl) ?_
  refine wl_det rfl rfl rfl (op_extract rfl rfl) ?_
  refine wl_det rfl rfl rfl (op_extract rfl rfl) ?_
  refine wl_det rfl rfl rfl (op_assign rfl) ?_
  refine wl_det rfl rfl rfl (op_assign rfl) ?_
  refine wl_nil ?_
  refine st_tn ?_
  refine w_seq ?_
  refine w_seq ?_
  refine w_cutL [(22, .bool (decide (¬ goodB x y)))] [3, 5, 6, 7] [3, 9] rfl (fun K' hK => ?_) ?_
  · -- cut r3
    refine w_region ?_
    refine wl_det rfl rfl rfl (op_fn Try.func16 rfl rfl rfl (known_any)) ?_
    refine wl_det rfl rfl rfl (op_not_t rfl) ?_
    refine wl_det rfl rfl rfl (op_move rfl) ?_
    refine wl_wanted_det rfl rfl rfl rfl rfl rfl rfl (op_loadA rfl tA24e (Ent.lab (l := 3) rfl (says_cel 0)) (Nat.le_of_ble_eq_true rfl)) ?_
    refine wl_wanted_det rfl rfl rfl rfl rfl rfl rfl (op_fn Try.func17 rfl rfl rfl (good_any _ _ (by omega) (by omega))) ?_
    refine wl_wanted_det rfl rfl rfl rfl rfl rfl rfl (op_not_d rfl) ?_
    refine wl_det rfl rfl rfl (op_pick_f rfl rfl) ?_
    refine wl_nil ?_
    refine st_tn ?_
    exact cut_done1 [3, 9] hK rfl (by first | (rw [decide_eq_decide]; omega) | (symm; rw [decide_eq_false_iff_not]; omega) | (symm; rw [decide_eq_true_iff]; omega) | (simp; done) | (simp; omega) | (simp [*]; done) | (simp [*]; omega)) (by rfl) rfl rfl
  · -- behind r3
    show W _ _ _ _ _ [(22, _), (3, _), (5, _), (6, _), (7, _)] [(3, _), (9, _)] _
    refine w_cond_d rfl (fun hc22 => ?_) (fun hc22 => ?_)
    · -- c22.t
      refine w_seq ?_
      refine w_region ?_
      refine wl_det rfl rfl rfl (op_fn Try.func16 rfl rfl rfl (known_any)) ?_
      refine wl_det rfl rfl rfl (op_move rfl) ?_
      refine wl_wanted_det rfl rfl rfl rfl rfl rfl rfl (op_move rfl) ?_
      refine wl_wanted_det rfl rfl rfl rfl rfl rfl rfl (op_val (v' := .bool true) (by rw [if_neg hc22]; rfl) (op_eql rfl rfl)) ?_
      refine wl_det rfl rfl rfl (op_pick_t rfl rfl) ?_
      refine wl_det rfl rfl rfl (op_move rfl) ?_
      refine wl_wanted_det rfl rfl rfl rfl rfl rfl rfl (op_move rfl) ?_
      refine wl_wanted_det rfl rfl rfl rfl rfl rfl rfl (op_val (v' := .bool true) (by rw [if_neg hc22]; rfl) (op_eql rfl rfl)) ?_
      refine wl_det rfl rfl rfl (op_pick_t rfl rfl) ?_
      refine wl_det rfl rfl rfl (op_assign rfl) ?_
      refine wl_nil ?_
      refine st_tn ?_
      refine w_ret ?_
      refine st_tr ?_
      refine st_ret (vs := [_]) [] Try.results3 ⟨rfl, trivial⟩ rfl ?_
      refine ⟨_, rfl, ?_⟩
      exact ⟨rfl, rfl⟩
    · -- c22.f
      have hg : goodB x y := Classical.byContradiction hc22
      refine w_skip ?_
      refine st_tn ?_
      refine w_seq ?_
      refine w_region ?_
      refine wl_det rfl rfl rfl (op_move rfl) ?_
      refine wl_det rfl rfl rfl (op_val (v' := .bool true) (by rw [if_pos hg]; rfl) (op_eql rfl rfl)) ?_
      refine wl_det rfl rfl rfl (op_move rfl) ?_
      refine wl_wanted_det rfl rfl rfl rfl rfl rfl rfl (op_move rfl) ?_
      refine wl_wanted_det rfl rfl rfl rfl rfl rfl rfl (op_move rfl) ?_
      refine wl_wanted_det rfl rfl rfl rfl rfl rfl rfl (op_loadA rfl tA24e (Ent.lab (l := 3) rfl (says_cel 0)) (Nat.le_of_ble_eq_true rfl)) ?_
      refine wl_wanted_det rfl rfl rfl rfl rfl rfl rfl (op_fn Try.func18 rfl rfl rfl (lquant_any x y (Sl.lab 9 rfl (by unfold maxLen; omega)) (by omega) hg)) ?_
      refine wl_wanted_det rfl rfl rfl rfl rfl rfl rfl (op_val (v' := .bool true) (by rw [if_pos hg]; simp) (op_eql rfl rfl)) ?_
      refine wl_det rfl rfl rfl (op_pick_t rfl rfl) ?_
      refine wl_det rfl rfl rfl (op_assign rfl) ?_
      refine wl_nil ?_
      refine st_tn ?_
      refine w_ret ?_
      refine st_ret (vs := [_]) [] Try.results3 ⟨rfl, trivial⟩ rfl ?_
      refine ⟨_, rfl, ?_⟩
      exact ⟨rfl, rfl⟩

end Go.Proofs.Ytbgddblfalahfaa
