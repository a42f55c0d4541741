/- The law's helper known, and the first law (layer 5). Conditions: none. -/
import Derived.Test.YtkknlfhncheflaaB16
namespace Go.Proofs.Ytkknlfhncheflaa
open Go Go.SL Go.RowKit Go.BitM
set_option linter.unusedVariables false
set_option linter.unusedSimpArgs false
theorem tA26q : aggB Try.prog 26 1 = true := by kernel_rfl
theorem tC37q : arrZB Try.prog 37 2 1 = some [Value.int .i64 0, Value.int .i64 0] := by kernel_rfl
theorem tL22_4q : zerosB Try.prog 22 3 1 4 = some [Value.int .i64 0, Value.int .i64 0, Value.int .i64 0, Value.int .i64 0] := by kernel_rfl
theorem tL38_2q : zerosB Try.prog 38 37 2 2 = some [Value.int .i64 0, Value.int .i64 0, Value.int .i64 0, Value.int .i64 0] := by kernel_rfl
theorem tMixq : Try.prog.follows .mixedOrders = true := by kernel_rfl
theorem tN26q : (Try.prog.info? 26).bind (·.zero) = some (Value.agg #[Value.slice none 0 0]) := by kernel_rfl
theorem tS22q : sliceB Try.prog 22 3 1 = true := by kernel_rfl
theorem tZ26q : (Try.prog.info? 26).map (·.size) = some 1 := by kernel_rfl

theorem wf_59 : WF [((3 : Int), (5 : Int)), (9, 9)] := ⟨by simp, by simp⟩
theorem wf_02 : WF [((0 : Int), (2 : Int)), (6, 8)] := ⟨by simp, by simp⟩
theorem nb_small {x : Nat} (h : 0 < x) (h2 : x < 256) : nb x = 1 := by rw [nb_pos h, show x / 256 = 0 by omega, nb_zero]
theorem encN_small (x : Int) (h : 0 < x) (h2 : x < 256) : encN x = [129, byteAt x 0] := by
  unfold encN
  rw [nb_small (x := x.toNat) (by omega) (by omega)]
  rfl
theorem enc_59 : encBm [((3 : Int), (5 : Int)), (9, 9)] = [129, 2, 129, 3, 129, 3, 129, 3, 129, 1] := by
  unfold encBm
  simp only [encR, List.length_cons, List.length_nil]
  rw [encN_small _ (by omega) (by omega), encN_small _ (by omega) (by omega), encN_small _ (by omega) (by omega), encN_small _ (by omega) (by omega), encN_small _ (by omega) (by omega)]
  rfl
set_option maxHeartbeats 1000000 in
set_option maxRecDepth 100000 in
theorem known_any {σ : World} {F : List Res} : FnT Try.prog σ F 13 [] [] (fun u ρ => u = .bool true ∧ ρ = []) := by
  refine fn_of 52 Try.func13 rfl Try.ntmps13 rfl ?_
  have hv : validB [5, 3, 4, 9] = true := by decide
  refine w_seq ?_
  refine w_region ?_
  refine wl_det rfl rfl rfl (op_assign rfl) ?_
  refine wl_nil ?_
  refine st_tn ?_
  refine w_seq ?_
  refine w_region ?_
  refine wl_op [] rfl rfl rfl rfl (op_buildSlice (enc := SL.encZ) (l := [_, _, _, _]) (lab := 8) tL22_4q rfl rfl (fun _ => rfl) rfl) ?_
  rintro _ _ ⟨a8, c8, rfl, rfl⟩
  refine wl_op [] rfl rfl rfl rfl (op_fn Try.func14 rfl rfl rfl (of_s (l := [5, 3, 4, 9]) 9 (Sl.lab 8 rfl (by simp [maxLen])) (by simp))) ?_
  rintro _ _ ⟨m1, a1, c1, hw1, hi1, hm1, rfl, rfl⟩
  obtain rfl : m1 = [((3 : Int), (5 : Int)), (9, 9)] := by
    refine WF.unique hw1 wf_59 hm1 fun n => ?_
    simp only [mem_cons, mem_nil, or_false, hv, true_and, List.mem_cons, List.not_mem_nil]; omega
  rw [if_pos hv]
  refine wl_det rfl rfl rfl (op_move rfl) ?_
  refine wl_det rfl rfl rfl (op_extract rfl rfl) ?_
  refine wl_det rfl rfl rfl (op_extract rfl rfl) ?_
  refine wl_op [] rfl rfl rfl rfl (op_alloc (l := 1) tN26q) ?_
  rintro _ _ ⟨b1, rfl, rfl⟩
  refine wl_op0 [1] rfl rfl rfl (op_store rfl rfl tZ26q (by rfl) (by rfl) (by exact Nat.le_of_ble_eq_true rfl)) ?_
  rintro _ _ ⟨rfl, rfl⟩
  refine wl_det rfl rfl rfl (op_assign rfl) ?_
  refine wl_nil ?_
  refine st_tn ?_
  refine w_seq ?_
  refine w_region ?_
  refine wl_det rfl rfl rfl (op_loadA rfl tA26q (Ent.lab (l := 1) rfl (says_cel 0)) (Nat.le_of_ble_eq_true rfl)) ?_
  refine wl_op [] rfl rfl rfl rfl (op_fn Try.func19 rfl rfl rfl (not_s 14 10 (Sl.lab 9 rfl (by simp [maxLen])) hw1 hi1)) ?_
  rintro _ _ ⟨m2, a2, c2, hw2, hi2, hm2, rfl, rfl⟩
  obtain rfl : m2 = [((0 : Int), (2 : Int)), (6, 8)] := by
    refine WF.unique hw2 wf_02 hm2 fun n => ?_
    simp only [mem_cons, mem_nil, or_false]; omega
  rw [if_pos (by omega : (0 : Int) ≤ 10 ∧ (10 : Int) ≤ 1048576)]
  refine wl_det rfl rfl rfl (op_move rfl) ?_
  refine wl_det rfl rfl rfl (op_extract rfl rfl) ?_
  refine wl_det rfl rfl rfl (op_extract rfl rfl) ?_
  refine wl_op [] rfl rfl rfl rfl (op_alloc (l := 3) tN26q) ?_
  rintro _ _ ⟨b3, rfl, rfl⟩
  refine wl_op0 [3] rfl rfl rfl (op_store rfl rfl tZ26q (by rfl) (by rfl) (by exact Nat.le_of_ble_eq_true rfl)) ?_
  rintro _ _ ⟨rfl, rfl⟩
  refine wl_det rfl rfl rfl (op_assign rfl) ?_
  refine wl_nil ?_
  refine st_tn ?_
  refine w_seq ?_
  refine w_region ?_
  refine wl_det rfl rfl rfl (op_loadA rfl tA26q (Ent.lab (l := 1) rfl (says_cel 0)) (Nat.le_of_ble_eq_true rfl)) ?_
  refine wl_det rfl rfl rfl (op_fn Try.func24 rfl rfl rfl (fn_imp (select_s 3 (Sl.lab 9 rfl (by simp [maxLen])) hw1 hi1 (by omega)) (fun u ρ hu => (⟨hu.1, hu.2⟩ : u = .tuple #[.int .i64 9, .bool true] ∧ ρ = [])))) ?_
  refine wl_det rfl rfl rfl (op_move rfl) ?_
  refine wl_det rfl rfl rfl (op_extract rfl rfl) ?_
  refine wl_det rfl rfl rfl (op_extract rfl rfl) ?_
  refine wl_det rfl rfl rfl (op_assign rfl) ?_
  refine wl_det rfl rfl rfl (op_assign rfl) ?_
  refine wl_nil ?_
  refine st_tn ?_
  refine w_seq ?_
  refine w_region ?_
  refine wl_det rfl rfl rfl (op_move rfl) ?_
  refine wl_det rfl rfl rfl (op_eql rfl rfl) ?_
  refine wl_det rfl rfl rfl (op_move rfl) ?_
  refine wl_wanted_det rfl rfl rfl rfl rfl rfl rfl (op_move rfl) ?_
  refine wl_wanted_det rfl rfl rfl rfl rfl rfl rfl (op_eql rfl rfl) ?_
  refine wl_det rfl rfl rfl (op_pick_t rfl rfl) ?_
  refine wl_det rfl rfl rfl (op_move rfl) ?_
  refine wl_wanted_det rfl rfl rfl rfl rfl rfl rfl (op_loadA rfl tA26q (Ent.lab (l := 1) rfl (says_cel 0)) (Nat.le_of_ble_eq_true rfl)) ?_
  refine wl_wanted_det rfl rfl rfl rfl rfl rfl rfl (op_fn Try.func46 rfl rfl rfl (fn_imp (encode_any (Sl.lab 9 rfl (by simp [maxLen])) hw1 hi1) (fun u ρ hu => (⟨by rw [hu.1, enc_59], hu.2⟩ : u = .string (str [129, 2, 129, 3, 129, 3, 129, 3, 129, 1]) ∧ ρ = [])))) ?_
  refine wl_wanted_det rfl rfl rfl rfl rfl rfl rfl (op_eqStr rfl rfl) ?_
  refine wl_det rfl rfl rfl (op_pick_t rfl rfl) ?_
  refine wl_det rfl rfl rfl (op_move rfl) ?_
  refine wl_wanted_det rfl rfl rfl rfl rfl rfl rfl (op_loadA rfl tA26q (Ent.lab (l := 3) rfl (says_cel 0)) (Nat.le_of_ble_eq_true rfl)) ?_
  refine wl_wanted_det rfl rfl rfl rfl rfl rfl rfl (op_buildArr tC37q rfl rfl) ?_
  refine wl_wanted_det rfl rfl rfl rfl rfl rfl rfl (op_buildArr tC37q rfl rfl) ?_
  refine wl_wanted [] rfl rfl rfl rfl rfl rfl rfl rfl (op_buildSlice (enc := encRun) (l := [(_, _), (_, _)]) (lab := 37) tL38_2q rfl rfl (fun _ => rfl) rfl) ?_
  rintro _ _ ⟨a37, c37, rfl, rfl⟩
  refine wl_wanted_det rfl rfl rfl rfl rfl rfl rfl (op_fn Try.func21 rfl rfl rfl (runs_eq (m := [((0 : Int), (2 : Int)), (6, 8)]) (Sl.lab 14 rfl (by simp [maxLen])) (Sl.lab 37 rfl (by simp [maxLen])) (by simp))) ?_
  refine wl_det rfl rfl rfl (op_pick_t rfl rfl) ?_
  refine wl_det rfl rfl rfl (op_move rfl) ?_
  refine wl_wanted_det rfl rfl rfl rfl rfl rfl rfl (op_loadA rfl tA26q (Ent.lab (l := 1) rfl (says_cel 0)) (Nat.le_of_ble_eq_true rfl)) ?_
  refine wl_wanted_det rfl rfl rfl rfl rfl rfl rfl (op_fn Try.func27 rfl rfl rfl (fn_imp (rank_s 9 (Sl.lab 9 rfl (by simp [maxLen])) hw1 hi1 (by omega)) (fun u ρ hu => (⟨hu.1, hu.2⟩ : u = .int .i64 3 ∧ ρ = [])))) ?_
  refine wl_wanted_det rfl rfl rfl rfl rfl rfl rfl (op_eql rfl rfl) ?_
  refine wl_det rfl rfl rfl (op_pick_t rfl rfl) ?_
  refine wl_det rfl rfl rfl (op_move rfl) ?_
  refine wl_wanted_det rfl rfl rfl rfl rfl rfl rfl (op_move rfl) ?_
  refine wl_wanted_det rfl rfl rfl rfl rfl rfl rfl (op_eql rfl rfl) ?_
  refine wl_det rfl rfl rfl (op_pick_t rfl rfl) ?_
  refine wl_det rfl rfl rfl (op_move rfl) ?_
  refine wl_wanted_det rfl rfl rfl rfl rfl rfl rfl (op_move rfl) ?_
  refine wl_det rfl rfl rfl (op_pick_t rfl rfl) ?_
  refine wl_det rfl rfl rfl (op_assign rfl) ?_
  refine wl_nil ?_
  refine st_tn ?_
  refine w_ret ?_
  refine st_ret (vs := [_]) [] Try.results13 ⟨rfl, trivial⟩ rfl ?_
  refine ⟨_, rfl, ?_⟩
  exact ⟨rfl, rfl⟩

theorem slnil {σ : World} {F : List Res} {α : Type} {enc : α → List Value} {k : Nat} : Sl σ F enc k (.slice none ([] : List α).length 0) ([] : List α) := ⟨fun w _ => ⟨by simp, by simp, .inl ⟨_, _, rfl, rfl⟩⟩, by simp⟩
-- CALL sleuth/sleuthref05.Valid valid_any {s0}
set_option maxHeartbeats 1000000 in
set_option maxRecDepth 100000 in
theorem lawOf_any {σ : World} {F : List Res} {a : Option Addr} {c : Nat} {l : List Int} (h : Sl σ F encZ 1 (.slice a l.length c) l) :
    FnT Try.prog σ F 3 [.slice a l.length c] [] (fun u ρ => u = .bool true ∧ ρ = []) := by
  refine fn_of 35 Try.func3 rfl Try.ntmps3 rfl ?_
  have hle := h.i64
  refine w_seq ?_
  refine w_region ?_
  refine wl_det rfl rfl rfl (op_assign rfl) ?_
  refine wl_nil ?_
  refine st_tn ?_
  refine w_seq ?_
  refine w_seq ?_
  refine w_region ?_
  refine wl_det rfl rfl rfl (op_fn Try.func13 rfl rfl rfl (known_any)) ?_
  refine wl_det rfl rfl rfl (op_not rfl) ?_
  refine wl_det rfl rfl rfl (op_move rfl) ?_
  refine wl_wanted_det rfl rfl rfl rfl rfl rfl rfl (op_move rfl) ?_
  refine wl_wanted_det rfl rfl rfl rfl rfl rfl rfl (op_lenT rfl tS22q (Sl.ent (by first | exact Sl.app (by assumption) _ | exact Sl.app (Sl.app (by assumption) _) _))) ?_
  refine wl_wanted_det rfl rfl rfl rfl rfl rfl rfl (op_gtr rfl rfl) ?_
  refine wl_det rfl rfl rfl (op_pick_f rfl rfl) ?_
  refine wl_nil ?_
  refine st_tn ?_
  refine w_cond_d rfl (fun hc11 => ?_) (fun hc11 => ?_)
  · -- c11.t
    refine w_seq ?_
    refine w_region ?_
    refine wl_det rfl rfl rfl (op_fn Try.func13 rfl rfl rfl (known_any)) ?_
    refine wl_det rfl rfl rfl (op_assign rfl) ?_
    refine wl_nil ?_
    refine st_tn ?_
    refine w_ret ?_
    refine st_tr ?_
    refine st_ret (vs := [_]) [] Try.results3 ⟨rfl, trivial⟩ rfl ?_
    refine ⟨_, rfl, ?_⟩
    exact ⟨rfl, rfl⟩
  · -- c11.f
    refine w_skip ?_
    refine st_tn ?_
    refine w_seq ?_
    refine w_region ?_
    refine wl_det rfl rfl rfl (op_move rfl) ?_
    refine wl_op [] rfl rfl rfl rfl (op_fn Try.func14 rfl rfl rfl (of_s 15 (Sl.app h _) (by omega))) ?_
    rintro _ _ ⟨m, am, cm, hw, hi, hm, rfl, rfl⟩
    refine wl_det rfl rfl rfl (op_move rfl) ?_
    refine wl_det rfl rfl rfl (op_extract rfl rfl) ?_
    refine wl_det rfl rfl rfl (op_extract rfl rfl) ?_
    refine wl_op [] rfl rfl rfl rfl (op_alloc (l := 3) tN26q) ?_
    rintro _ _ ⟨b3, rfl, rfl⟩
    refine wl_op0 [3] rfl rfl rfl (op_store rfl rfl tZ26q (by rfl) (by rfl) (by exact Nat.le_of_ble_eq_true rfl)) ?_
    rintro _ _ ⟨rfl, rfl⟩
    refine wl_det rfl rfl rfl (op_assign rfl) ?_
    refine wl_nil ?_
    refine st_tn ?_
    refine w_seq ?_
    refine w_seq ?_
    have hlen := wf_len hw hi
    refine w_region ?_
    refine wl_det rfl rfl rfl (op_move rfl) ?_
    refine wl_det rfl rfl rfl (op_fn Try.func15 rfl rfl rfl (valid_any (by first | exact Sl.app (by assumption) _ | exact Sl.app (Sl.app (by assumption) _) _))) ?_
    refine wl_det rfl rfl rfl (op_not rfl) ?_
    refine wl_nil ?_
    refine st_tn ?_
    refine w_cond rfl (fun hc20 => ?_) (fun hc20 => ?_)
    · -- c20.t
      have hv : ¬ validB l = true := by simpa using hc20
      obtain rfl : m = [] := WF.unique hw WF.nil hm (fun n => ⟨fun h => absurd h (mem_nil n), fun h => absurd h.1 hv⟩)
      rw [if_neg hv]
      refine w_seq ?_
      refine w_region ?_
      refine wl_det rfl rfl rfl (op_move rfl) ?_
      refine wl_det rfl rfl rfl (op_eql rfl rfl) ?_
      refine wl_det rfl rfl rfl (op_move rfl) ?_
      refine wl_wanted_det rfl rfl rfl rfl rfl rfl rfl (op_loadA rfl tA26q (Ent.lab (l := 3) rfl (says_cel 0)) (Nat.le_of_ble_eq_true rfl)) ?_
      refine wl_wanted_det rfl rfl rfl rfl rfl rfl rfl (op_fn Try.func16 rfl rfl rfl (fn_imp (is_any (rl := []) (l := []) (Sl.lab 15 rfl (by simp [maxLen])) slnil hw hi (by simp)) (fun u ρ hu => (⟨by rw [hu.1]; rfl, hu.2⟩ : u = .bool true ∧ ρ = [])))) ?_
      refine wl_det rfl rfl rfl (op_pick_t rfl rfl) ?_
      refine wl_det rfl rfl rfl (op_assign rfl) ?_
      refine wl_nil ?_
      refine st_tn ?_
      refine w_ret ?_
      refine st_tr ?_
      refine st_ret (vs := [_]) [] Try.results3 ⟨rfl, trivial⟩ rfl ?_
      refine ⟨_, rfl, ?_⟩
      exact ⟨rfl, rfl⟩
    · -- c20.f
      have hv : validB l = true := by simpa using hc20
      have hrows : rows m = srtU l := (srtU_eq (ss_rows hw) (fun x => by rw [mem_rows, hm]; simp [hv])).symm
      have hsl := srtU_le l
      rw [if_pos hv]
      refine w_skip ?_
      refine st_tn ?_
      refine w_seq ?_
      refine w_draw (D := [⟨27, [], [], [], _, false, [], []⟩, ⟨28, [0], [], [], _, false, [], []⟩, ⟨29, [1], [], [], _, false, [], []⟩, ⟨30, [], [], [], _, false, [], []⟩, ⟨31, [], [], [], _, false, [], []⟩, ⟨32, [4], [], [], _, false, [], []⟩, ⟨33, [3, 5], [], [], _, false, [], []⟩, ⟨34, [2, 6], [], [], _, false, [], []⟩]) [] [4, 3, 0] [⟨27, [], [], false, [], []⟩, ⟨28, [0], [], false, [], []⟩, ⟨29, [1], [], false, [], []⟩, ⟨30, [], [], false, [], []⟩, ⟨31, [], [], false, [], []⟩, ⟨32, [4], [], false, [], []⟩, ⟨33, [3, 5], [], false, [], []⟩, ⟨34, [2, 6], [], false, [], []⟩] tMixq (by rfl) (by kernel_rfl) (by rfl) (by rfl)
          ⟨.plain rfl (by intro X; exact op_move rfl),
          ⟨.plain rfl (by intro X; rintro _ _ ⟨rfl, rfl⟩; exact op_eql rfl rfl),
          ⟨.plain rfl (by intro X; rintro _ _ ⟨rfl, rfl⟩; exact op_move rfl),
          ⟨.wanted rfl rfl rfl (by rintro _ _ ⟨rfl, rfl⟩; first | rfl | (exact congrArg Value.bool (decide_eq_true (by omega))) | (exact congrArg Value.bool (decide_eq_false (by omega))) | (simp; done) | (simp; omega) | (simp [*]; done)) (by intro X; exact op_loadA rfl tA26q (Ent.lab (l := 3) rfl (says_cel 0)) (Nat.le_of_ble_eq_true rfl)),
          ⟨.wanted rfl rfl rfl (by rintro _ _ ⟨rfl, rfl⟩; first | rfl | (exact congrArg Value.bool (decide_eq_true (by omega))) | (exact congrArg Value.bool (decide_eq_false (by omega))) | (simp; done) | (simp; omega) | (simp [*]; done)) (by intro X; exact op_move rfl),
          ⟨.wanted rfl rfl rfl (by rintro _ _ ⟨rfl, rfl⟩; first | rfl | (exact congrArg Value.bool (decide_eq_true (by omega))) | (exact congrArg Value.bool (decide_eq_false (by omega))) | (simp; done) | (simp; omega) | (simp [*]; done)) (by intro X; rintro _ _ ⟨rfl, rfl⟩; exact op_fn Try.func17 rfl rfl rfl (sorted_any 32 (Sl.app (Sl.app h X) _) (by omega))),
          ⟨.wanted rfl rfl rfl (by rintro _ _ ⟨rfl, rfl⟩; first | rfl | (exact congrArg Value.bool (decide_eq_true (by omega))) | (exact congrArg Value.bool (decide_eq_false (by omega))) | (simp; done) | (simp; omega) | (simp [*]; done)) (by intro X; rintro _ _ ⟨rfl, rfl⟩ _ _ ⟨a32, c32, rfl, rfl⟩; exact op_fn Try.func16 rfl rfl rfl (fn_imp (is_any (Sl.lab 15 rfl (by unfold maxLen; omega)) (Sl.lab 32 rfl (by unfold maxLen; omega)) hw hi (by omega)) (fun u ρ hu => (⟨by rw [hu.1, decide_eq_true hrows], hu.2⟩ : u = .bool true ∧ ρ = [])))),
          ⟨.plain rfl (by intro X; rintro _ _ ⟨rfl, rfl⟩ _ _ ⟨rfl, rfl⟩; exact op_pick rfl rfl rfl),
          trivial⟩⟩⟩⟩⟩⟩⟩⟩ ?_
      rintro _ _ ⟨rfl, rfl⟩ _ _ ⟨rfl, rfl⟩ _ _ ⟨rfl, rfl⟩ _ _ ⟨rfl, rfl⟩ _ _ ⟨rfl, rfl⟩ _ _ ⟨a32, c32, rfl, rfl⟩ _ _ ⟨rfl, rfl⟩ _ _ ⟨rfl, rfl⟩
      refine wl_norm (e' := [(34, _)]) (.cons rfl (.nil _)) (by dsimp only [cond_false, cond_true, List.nil_append, List.cons_append]) ?_
      refine wl_det rfl rfl rfl (op_assign rfl) ?_
      refine wl_nil ?_
      refine st_tn ?_
      refine w_ret ?_
      refine st_ret (vs := [_]) [] Try.results3 ⟨rfl, trivial⟩ rfl ?_
      refine ⟨_, rfl, ?_⟩
      exact ⟨rfl, rfl⟩

end Go.Proofs.Ytkknlfhncheflaa
