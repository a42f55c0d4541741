/- The laws BitmapCombines, BitmapNots and BitmapRuns (layer 5). Conditions: none. -/
import Derived.Test.YtkknlfhncheflaaB22
namespace Go.Proofs.Ytkknlfhncheflaa
open Go Go.SL Go.RowKit Go.BitM
set_option linter.unusedVariables false
set_option linter.unusedSimpArgs false
theorem tA26x : aggB Try.prog 26 1 = true := by kernel_rfl
theorem tA43x : aggB Try.prog 43 2 = true := by kernel_rfl
theorem tC37x : arrZB Try.prog 37 2 1 = some [Value.int .i64 0, Value.int .i64 0] := by kernel_rfl
theorem tF58_0x : fieldB Try.prog 58 0 0 = true := by kernel_rfl
theorem tF58_1x : fieldB Try.prog 58 1 1 = true := by kernel_rfl
theorem tL22_1x : zerosB Try.prog 22 3 1 1 = some [Value.int .i64 0] := by kernel_rfl
theorem tL38_1x : zerosB Try.prog 38 37 2 1 = some [Value.int .i64 0, Value.int .i64 0] := by kernel_rfl
theorem tMixx : Try.prog.follows .mixedOrders = true := by kernel_rfl
theorem tN26x : (Try.prog.info? 26).bind (·.zero) = some (Value.agg #[Value.slice none 0 0]) := by kernel_rfl
theorem tO3x : oneB Try.prog 3 = true := by kernel_rfl
theorem tP22x : appB Try.prog 22 3 1 8 = true := by kernel_rfl
theorem tP38x : appB Try.prog 38 37 2 16 = true := by kernel_rfl
theorem tS22x : sliceB Try.prog 22 3 1 = true := by kernel_rfl
theorem tS24x : sliceB Try.prog 24 58 2 = true := by kernel_rfl
theorem tZ26x : (Try.prog.info? 26).map (·.size) = some 1 := by kernel_rfl

-- CALL sleuth/bitmap.Encode encode_any {s0} (by assumption) (by assumption)
set_option maxHeartbeats 4000000 in
set_option maxRecDepth 100000 in
theorem lawCombines_any {σ : World} {F : List Res} {a1 a2 : Option Addr} {c1 c2 : Nat} {l1 l2 : List (Int × Int)} {g1 g2 : Int} (hb1 : 0 ≤ g1 ∧ g1 ≤ 65535) (h1 : Sl σ F encP8 2 (.slice a1 l1.length c1) l1) (hr1 : ∀ r ∈ l1, (0 ≤ r.1 ∧ r.1 ≤ 255) ∧ 0 ≤ r.2 ∧ r.2 ≤ 255)
    (hb2 : 0 ≤ g2 ∧ g2 ≤ 65535) (h2 : Sl σ F encP8 2 (.slice a2 l2.length c2) l2) (hr2 : ∀ r ∈ l2, (0 ≤ r.1 ∧ r.1 ≤ 255) ∧ 0 ≤ r.2 ∧ r.2 ≤ 255) :
    FnT Try.prog σ F 10 [.agg #[.int .u16 g1, .slice a1 l1.length c1], .agg #[.int .u16 g2, .slice a2 l2.length c2]] [] (fun u ρ => u = .bool true ∧ ρ = []) := by
  refine fn_of 75 Try.func10 rfl Try.ntmps10 rfl ?_
  obtain ⟨hro1, hro2, hro3⟩ := rowsOf_ok hb1.1 l1
  obtain ⟨hrp1, hrp2, hrp3⟩ := rowsOf_ok hb2.1 l2
  have hf1 := List.length_filter_le (fun x => decide (x ∈ rowsOf g2 l2)) (rowsOf g1 l1)
  have hf2 := List.length_filter_le (fun x => decide (¬ x ∈ rowsOf g2 l2)) (rowsOf g1 l1)
  have hf3 := srtU_le (rowsOf g1 l1 ++ rowsOf g2 l2)
  have hf4 : (rowsOf g1 l1 ++ rowsOf g2 l2).length = (rowsOf g1 l1).length + (rowsOf g2 l2).length := List.length_append
  refine w_seq ?_
  refine w_region ?_
  refine wl_op [] rfl rfl rfl rfl (op_box (T := 43) (l := 2) rfl) ?_
  rintro _ _ ⟨b2, rfl, rfl⟩
  refine wl_op [] rfl rfl rfl rfl (op_box (T := 43) (l := 3) rfl) ?_
  rintro _ _ ⟨b3, rfl, rfl⟩
  refine wl_det rfl rfl rfl (op_assign rfl) ?_
  refine wl_nil ?_
  refine st_tn ?_
  refine w_seq ?_
  refine w_seq ?_
  refine w_region ?_
  refine wl_det rfl rfl rfl (op_fn Try.func13 rfl rfl rfl (known_any)) ?_
  refine wl_det rfl rfl rfl (op_not_t rfl) ?_
  refine wl_nil ?_
  refine st_tn ?_
  refine w_cond_f (rfl) ?_
  refine w_skip ?_
  refine st_tn ?_
  refine w_seq ?_
  refine w_draw (D := [⟨11, [], [], [], _, false, [], []⟩, ⟨12, [0], [], [], _, false, [], []⟩, ⟨13, [], [], [], _, false, [], []⟩, ⟨14, [2], [], [], _, false, [], []⟩, ⟨15, [], [], [], _, false, [], []⟩, ⟨16, [4], [], [], _, false, [], []⟩, ⟨17, [], [], [], _, false, [], []⟩, ⟨18, [6], [], [], _, false, [], []⟩, ⟨5, [], [], [], _, false, [], []⟩, ⟨6, [], [], [], _, false, [], []⟩]) [] [2, 3] [⟨11, [], [], false, [], []⟩, ⟨12, [0], [], false, [], []⟩, ⟨13, [], [], false, [], []⟩, ⟨14, [2], [], false, [], []⟩, ⟨15, [], [], false, [], []⟩, ⟨16, [4], [], false, [], []⟩, ⟨17, [], [], false, [], []⟩, ⟨18, [6], [], false, [], []⟩, ⟨5, [], [], false, [], []⟩, ⟨6, [], [], false, [], []⟩] tMixx (by rfl) (by kernel_rfl) (by rfl) (by rfl)
      ⟨.plain rfl (by intro X; exact op_loadA rfl tA43x (Ent.lab (l := 2) rfl (says_cel 0)) (Nat.le_of_ble_eq_true rfl)),
      ⟨.plain rfl (by intro X; rintro _ _ ⟨rfl, rfl⟩; exact op_fn Try.func22 rfl rfl rfl (made_any 12 hb1 (Sl.app (Sl.app h1 X) _) hr1)),
      ⟨.plain rfl (by intro X; exact op_loadA rfl tA43x (Ent.lab (l := 3) rfl (says_cel 0)) (Nat.le_of_ble_eq_true rfl)),
      ⟨.plain rfl (by intro X; rintro _ _ ⟨rfl, rfl⟩; exact op_fn Try.func22 rfl rfl rfl (made_any 14 hb2 (Sl.app (Sl.app h2 X) _) hr2)),
      ⟨.plain rfl (by intro X; exact op_loadA rfl tA43x (Ent.lab (l := 2) rfl (says_cel 0)) (Nat.le_of_ble_eq_true rfl)),
      ⟨.plain rfl (by intro X; rintro _ _ ⟨rfl, rfl⟩; exact op_fn Try.func23 rfl rfl rfl (lrows_any 16 hb1 (Sl.app (Sl.app h1 X) _) hr1)),
      ⟨.plain rfl (by intro X; exact op_loadA rfl tA43x (Ent.lab (l := 3) rfl (says_cel 0)) (Nat.le_of_ble_eq_true rfl)),
      ⟨.plain rfl (by intro X; rintro _ _ ⟨rfl, rfl⟩; exact op_fn Try.func23 rfl rfl rfl (lrows_any 18 hb2 (Sl.app (Sl.app h2 X) _) hr2)),
      ⟨.plain rfl (by intro X; exact op_alloc (l := 5) tN26x),
      ⟨.plain rfl (by intro X; exact op_alloc (l := 6) tN26x),
      trivial⟩⟩⟩⟩⟩⟩⟩⟩⟩⟩ ?_
  rintro _ _ ⟨rfl, rfl⟩ _ _ ⟨m12, a12, c12, hw12, hi12, hm12, rfl, rfl⟩ _ _ ⟨rfl, rfl⟩ _ _ ⟨m14, a14, c14, hw14, hi14, hm14, rfl, rfl⟩ _ _ ⟨rfl, rfl⟩ _ _ ⟨a16, c16, rfl, rfl⟩ _ _ ⟨rfl, rfl⟩ _ _ ⟨a18, c18, rfl, rfl⟩ _ _ ⟨b5, rfl, rfl⟩ _ _ ⟨b6, rfl, rfl⟩
  have hl12 := wf_len hw12 hi12
  have hl14 := wf_len hw14 hi14
  refine wl_norm (e' := [(5, _), (6, _), (12, _), (14, _), (16, _), (18, _)]) (.cons rfl (.cons rfl (.cons rfl (.cons rfl (.cons rfl (.cons rfl (.nil _))))))) (by dsimp only [cond_false, cond_true, List.nil_append, List.cons_append]) ?_
  refine wl_op0 [5] rfl rfl rfl (op_store rfl rfl tZ26x (by rfl) (by rfl) (by exact Nat.le_of_ble_eq_true rfl)) ?_
  rintro _ _ ⟨rfl, rfl⟩
  refine wl_op0 [6] rfl rfl rfl (op_store rfl rfl tZ26x (by rfl) (by rfl) (by exact Nat.le_of_ble_eq_true rfl)) ?_
  rintro _ _ ⟨rfl, rfl⟩
  refine wl_det rfl rfl rfl (op_assign rfl) ?_
  refine wl_det rfl rfl rfl (op_assign rfl) ?_
  refine wl_nil ?_
  refine st_tn ?_
  refine w_seq ?_
  refine w_seq ?_
  have hx1 : ∀ x, mem m12 x ↔ x ∈ rowsOf g1 l1 := fun x => by rw [← mem_rows, hm12]
  have hx2 : ∀ x, mem m14 x ↔ x ∈ rowsOf g2 l2 := fun x => by rw [← mem_rows, hm14]
  refine w_region ?_
  refine wl_det rfl rfl rfl (op_loadA rfl tA26x (Ent.lab (l := 5) rfl (says_cel 0)) (Nat.le_of_ble_eq_true rfl)) ?_
  refine wl_det rfl rfl rfl (op_loadA rfl tA26x (Ent.lab (l := 6) rfl (says_cel 0)) (Nat.le_of_ble_eq_true rfl)) ?_
  refine wl_op [] rfl rfl rfl rfl (op_fn Try.func31 rfl rfl rfl (and_s 21 (Sl.lab 12 rfl (by unfold maxLen; omega)) (Sl.lab 14 rfl (by unfold maxLen; omega)) (by assumption) (by assumption) (by assumption) (by assumption))) ?_
  rintro _ _ ⟨m21, a21, c21, hw21, hi21, hm21, rfl, rfl⟩
  have hl21 := wf_len hw21 hi21
  refine wl_det rfl rfl rfl (op_move rfl) ?_
  refine wl_det rfl rfl rfl (op_move rfl) ?_
  refine wl_op [] rfl rfl rfl rfl (op_fn Try.func40 rfl rfl rfl (rand_any 24 (Sl.lab 16 rfl (by unfold maxLen; omega)) (Sl.lab 18 rfl (by unfold maxLen; omega)) (by omega))) ?_
  rintro _ _ ⟨a24, c24, rfl, rfl⟩
  refine wl_det rfl rfl rfl (op_val (v' := .bool true) (by rw [decide_eq_true (SS.ext (ss_rows hw21) (SS.filter hro1 _) (fun x => by rw [mem_rows]; refine (hm21 x).trans ?_; simp only [hx1, hx2, List.mem_filter, decide_eq_true_iff]))]) (op_fn Try.func16 rfl rfl rfl (is_any (Sl.lab 21 rfl (by unfold maxLen; omega)) (Sl.lab 24 rfl (by unfold maxLen; omega)) (by assumption) (by assumption) (by omega)))) ?_
  refine wl_det rfl rfl rfl (op_not_t rfl) ?_
  refine wl_det rfl rfl rfl (op_move rfl) ?_
  refine wl_wanted_det rfl rfl rfl rfl rfl rfl rfl (op_loadA rfl tA26x (Ent.lab (l := 5) rfl (says_cel 0)) (Nat.le_of_ble_eq_true rfl)) ?_
  refine wl_wanted_det rfl rfl rfl rfl rfl rfl rfl (op_loadA rfl tA26x (Ent.lab (l := 6) rfl (says_cel 0)) (Nat.le_of_ble_eq_true rfl)) ?_
  refine wl_wanted [] rfl rfl rfl rfl rfl rfl rfl rfl (op_fn Try.func32 rfl rfl rfl (or_s 30 (Sl.lab 12 rfl (by unfold maxLen; omega)) (Sl.lab 14 rfl (by unfold maxLen; omega)) (by assumption) (by assumption) (by assumption) (by assumption))) ?_
  rintro _ _ ⟨m30, a30, c30, hw30, hi30, hm30, rfl, rfl⟩
  have hl30 := wf_len hw30 hi30
  refine wl_wanted_det rfl rfl rfl rfl rfl rfl rfl (op_move rfl) ?_
  refine wl_wanted_det rfl rfl rfl rfl rfl rfl rfl (op_move rfl) ?_
  refine wl_wanted [] rfl rfl rfl rfl rfl rfl rfl rfl (op_fn Try.func41 rfl rfl rfl (ror_any 33 (Sl.lab 16 rfl (by unfold maxLen; omega)) (Sl.lab 18 rfl (by unfold maxLen; omega)) (by omega) (by omega) (by omega))) ?_
  rintro _ _ ⟨a33, c33, rfl, rfl⟩
  refine wl_wanted_det rfl rfl rfl rfl rfl rfl rfl (op_val (v' := .bool true) (by rw [decide_eq_true (srtU_eq (ss_rows hw30) (fun x => by rw [mem_rows]; refine (hm30 x).trans ?_; simp only [hx1, hx2, List.mem_append])).symm]) (op_fn Try.func16 rfl rfl rfl (is_any (Sl.lab 30 rfl (by unfold maxLen; omega)) (Sl.lab 33 rfl (by unfold maxLen; omega)) (by assumption) (by assumption) (by omega)))) ?_
  refine wl_wanted_det rfl rfl rfl rfl rfl rfl rfl (op_not_t rfl) ?_
  refine wl_det rfl rfl rfl (op_pick_f rfl rfl) ?_
  refine wl_det rfl rfl rfl (op_move rfl) ?_
  refine wl_wanted_det rfl rfl rfl rfl rfl rfl rfl (op_loadA rfl tA26x (Ent.lab (l := 5) rfl (says_cel 0)) (Nat.le_of_ble_eq_true rfl)) ?_
  refine wl_wanted_det rfl rfl rfl rfl rfl rfl rfl (op_loadA rfl tA26x (Ent.lab (l := 6) rfl (says_cel 0)) (Nat.le_of_ble_eq_true rfl)) ?_
  refine wl_wanted [] rfl rfl rfl rfl rfl rfl rfl rfl (op_fn Try.func33 rfl rfl rfl (andnot_s 40 (Sl.lab 12 rfl (by unfold maxLen; omega)) (Sl.lab 14 rfl (by unfold maxLen; omega)) (by assumption) (by assumption) (by assumption) (by assumption))) ?_
  rintro _ _ ⟨m40, a40, c40, hw40, hi40, hm40, rfl, rfl⟩
  have hl40 := wf_len hw40 hi40
  refine wl_wanted_det rfl rfl rfl rfl rfl rfl rfl (op_move rfl) ?_
  refine wl_wanted_det rfl rfl rfl rfl rfl rfl rfl (op_move rfl) ?_
  refine wl_wanted [] rfl rfl rfl rfl rfl rfl rfl rfl (op_fn Try.func42 rfl rfl rfl (randnot_any 43 (Sl.lab 16 rfl (by unfold maxLen; omega)) (Sl.lab 18 rfl (by unfold maxLen; omega)) (by omega))) ?_
  rintro _ _ ⟨a43, c43, rfl, rfl⟩
  refine wl_wanted_det rfl rfl rfl rfl rfl rfl rfl (op_val (v' := .bool true) (by rw [decide_eq_true (SS.ext (ss_rows hw40) (SS.filter hro1 _) (fun x => by rw [mem_rows]; refine (hm40 x).trans ?_; simp only [hx1, hx2, List.mem_filter, decide_eq_true_iff]))]) (op_fn Try.func16 rfl rfl rfl (is_any (Sl.lab 40 rfl (by unfold maxLen; omega)) (Sl.lab 43 rfl (by unfold maxLen; omega)) (by assumption) (by assumption) (by omega)))) ?_
  refine wl_wanted_det rfl rfl rfl rfl rfl rfl rfl (op_not_t rfl) ?_
  refine wl_det rfl rfl rfl (op_pick_f rfl rfl) ?_
  refine wl_nil ?_
  refine st_tn ?_
  refine w_cond_f (rfl) ?_
  refine w_skip ?_
  refine st_tn ?_
  refine w_seq ?_
  refine w_region ?_
  refine wl_det rfl rfl rfl (op_loadA rfl tA26x (Ent.lab (l := 5) rfl (says_cel 0)) (Nat.le_of_ble_eq_true rfl)) ?_
  refine wl_det rfl rfl rfl (op_loadA rfl tA26x (Ent.lab (l := 6) rfl (says_cel 0)) (Nat.le_of_ble_eq_true rfl)) ?_
  refine wl_det rfl rfl rfl (op_fn Try.func30 rfl rfl rfl (bequal_any (Sl.lab 12 rfl (by unfold maxLen; omega)) (Sl.lab 14 rfl (by unfold maxLen; omega)))) ?_
  refine wl_det rfl rfl rfl (op_move rfl) ?_
  refine wl_det rfl rfl rfl (op_move rfl) ?_
  refine wl_det rfl rfl rfl (op_fn Try.func43 rfl rfl rfl (same_any (Sl.lab 16 rfl (by unfold maxLen; omega)) (Sl.lab 18 rfl (by unfold maxLen; omega)))) ?_
  refine wl_det rfl rfl rfl (op_val (v' := .bool true) (by 
        have : (m12 = m14) ↔ (rowsOf g1 l1 = rowsOf g2 l2) := ⟨fun e => by rw [← hm12, ← hm14, e], fun e => rows_inj hw12 hw14 (by rw [hm12, hm14, e])⟩
        simp [this]) (op_eqB rfl rfl Try.underlying4)) ?_
  refine wl_det rfl rfl rfl (op_move rfl) ?_
  refine wl_wanted_det rfl rfl rfl rfl rfl rfl rfl (op_loadA rfl tA26x (Ent.lab (l := 5) rfl (says_cel 0)) (Nat.le_of_ble_eq_true rfl)) ?_
  refine wl_wanted_det rfl rfl rfl rfl rfl rfl rfl (op_loadA rfl tA26x (Ent.lab (l := 6) rfl (says_cel 0)) (Nat.le_of_ble_eq_true rfl)) ?_
  refine wl_wanted_det rfl rfl rfl rfl rfl rfl rfl (op_fn Try.func34 rfl rfl rfl (subset_s (Sl.lab 12 rfl (by unfold maxLen; omega)) (Sl.lab 14 rfl (by unfold maxLen; omega)) (by assumption) (by assumption) (by assumption) (by assumption))) ?_
  refine wl_wanted_det rfl rfl rfl rfl rfl rfl rfl (op_move rfl) ?_
  refine wl_wanted_det rfl rfl rfl rfl rfl rfl rfl (op_move rfl) ?_
  refine wl_wanted [] rfl rfl rfl rfl rfl rfl rfl rfl (op_fn Try.func42 rfl rfl rfl (randnot_any 60 (Sl.lab 16 rfl (by unfold maxLen; omega)) (Sl.lab 18 rfl (by unfold maxLen; omega)) (by omega))) ?_
  rintro _ _ ⟨a60, c60, rfl, rfl⟩
  refine wl_wanted_det rfl rfl rfl rfl rfl rfl rfl (op_lenT rfl tS22x (Sl.ent (Sl.lab 60 rfl (by unfold maxLen; omega)))) ?_
  refine wl_wanted_det rfl rfl rfl rfl rfl rfl rfl (op_eql rfl rfl) ?_
  refine wl_wanted_det rfl rfl rfl rfl rfl rfl rfl (op_val (v' := .bool true) (by 
        have : (∀ x ∈ rows m12, x ∈ rows m14) ↔ ((((rowsOf g1 l1).filter fun x => decide (¬ x ∈ rowsOf g2 l2)).length : Int) = 0) := by
          rw [hm12, hm14]
          constructor
          · intro h; rw [List.filter_eq_nil_iff.2 (fun x hx => by simpa using h x hx)]; rfl
          · intro h x hx
            have h0 : (rowsOf g1 l1).filter (fun x => decide (¬ x ∈ rowsOf g2 l2)) = [] := List.eq_nil_of_length_eq_zero (by omega)
            have := List.filter_eq_nil_iff.1 h0 x hx
            simpa using this
        simp only [this]
        simp) (op_eqB rfl rfl Try.underlying4)) ?_
  refine wl_det rfl rfl rfl (op_pick_t rfl rfl) ?_
  refine wl_det rfl rfl rfl (op_move rfl) ?_
  refine wl_wanted_det rfl rfl rfl rfl rfl rfl rfl (op_loadA rfl tA26x (Ent.lab (l := 5) rfl (says_cel 0)) (Nat.le_of_ble_eq_true rfl)) ?_
  refine wl_wanted_det rfl rfl rfl rfl rfl rfl rfl (op_move rfl) ?_
  refine wl_wanted_det rfl rfl rfl rfl rfl rfl rfl (op_val (v' := .bool true) (by rw [decide_eq_true hm12]) (op_fn Try.func16 rfl rfl rfl (is_any (Sl.lab 12 rfl (by unfold maxLen; omega)) (Sl.lab 16 rfl (by unfold maxLen; omega)) (by assumption) (by assumption) (by omega)))) ?_
  refine wl_det rfl rfl rfl (op_pick_t rfl rfl) ?_
  refine wl_det rfl rfl rfl (op_move rfl) ?_
  refine wl_wanted_det rfl rfl rfl rfl rfl rfl rfl (op_loadA rfl tA26x (Ent.lab (l := 6) rfl (says_cel 0)) (Nat.le_of_ble_eq_true rfl)) ?_
  refine wl_wanted_det rfl rfl rfl rfl rfl rfl rfl (op_move rfl) ?_
  refine wl_wanted_det rfl rfl rfl rfl rfl rfl rfl (op_val (v' := .bool true) (by rw [decide_eq_true hm14]) (op_fn Try.func16 rfl rfl rfl (is_any (Sl.lab 14 rfl (by unfold maxLen; omega)) (Sl.lab 18 rfl (by unfold maxLen; omega)) (by assumption) (by assumption) (by omega)))) ?_
  refine wl_det rfl rfl rfl (op_pick_t rfl rfl) ?_
  refine wl_det rfl rfl rfl (op_assign rfl) ?_
  refine wl_nil ?_
  refine st_tn ?_
  refine w_ret ?_
  refine st_ret (vs := [_]) [] Try.results10 ⟨rfl, trivial⟩ rfl ?_
  refine ⟨_, rfl, ?_⟩
  exact ⟨rfl, rfl⟩

set_option maxHeartbeats 4000000 in
set_option maxRecDepth 100000 in
theorem lawNots_any {σ : World} {F : List Res} {a : Option Addr} {c : Nat} {rl : List (Int × Int)} {base : Int} (sz y : Int) (hb : 0 ≤ base ∧ base ≤ 65535) (h : Sl σ F encP8 2 (.slice a rl.length c) rl) (hr : ∀ r ∈ rl, (0 ≤ r.1 ∧ r.1 ≤ 255) ∧ 0 ≤ r.2 ∧ r.2 ≤ 255) (hs : 0 ≤ sz ∧ sz ≤ 65535) (hy : -9223372036854775808 ≤ y ∧ y ≤ 9223372036854775807) :
    FnT Try.prog σ F 9 [.agg #[.int .u16 base, .slice a rl.length c], .int .u16 sz, .int .i64 y] [] (fun u ρ => u = .bool true ∧ ρ = []) := by
  refine fn_of 94 Try.func9 rfl Try.ntmps9 rfl ?_
  obtain ⟨hro1, hro2, hro3⟩ := rowsOf_ok hb.1 rl
  have hf1 := List.length_filter_le (fun x => decide (¬ x ∈ rowsOf base rl)) (upto 0 (sz % 601 - 1))
  rw [length_upto] at hf1
  refine w_seq ?_
  refine w_region ?_
  refine wl_op [] rfl rfl rfl rfl (op_box (T := 43) (l := 3) rfl) ?_
  rintro _ _ ⟨b3, rfl, rfl⟩
  refine wl_det rfl rfl rfl (op_assign rfl) ?_
  refine wl_nil ?_
  refine st_tn ?_
  refine w_seq ?_
  refine w_seq ?_
  refine w_region ?_
  refine wl_det rfl rfl rfl (op_fn Try.func13 rfl rfl rfl (known_any)) ?_
  refine wl_det rfl rfl rfl (op_not_t rfl) ?_
  refine wl_nil ?_
  refine st_tn ?_
  refine w_cond_f (rfl) ?_
  refine w_skip ?_
  refine st_tn ?_
  refine w_seq ?_
  refine w_draw (D := [⟨18, [], [], [], _, false, [], []⟩, ⟨19, [0], [], [], _, false, [], []⟩, ⟨20, [], [], [], _, false, [], []⟩, ⟨21, [2], [], [], _, false, [], []⟩, ⟨7, [], [], [], _, false, [], []⟩]) [] [3] [⟨18, [], [], false, [], []⟩, ⟨19, [0], [], false, [], []⟩, ⟨20, [], [], false, [], []⟩, ⟨21, [2], [], false, [], []⟩, ⟨7, [], [], false, [], []⟩] tMixx (by rfl) (by kernel_rfl) (by rfl) (by rfl)
      ⟨.plain rfl (by intro X; exact op_loadA rfl tA43x (Ent.lab (l := 3) rfl (says_cel 0)) (Nat.le_of_ble_eq_true rfl)),
      ⟨.plain rfl (by intro X; rintro _ _ ⟨rfl, rfl⟩; exact op_fn Try.func22 rfl rfl rfl (made_any 19 (by assumption) (by first | exact Sl.app (by assumption) _ | exact Sl.app (Sl.app (by assumption) _) _) (by assumption))),
      ⟨.plain rfl (by intro X; exact op_loadA rfl tA43x (Ent.lab (l := 3) rfl (says_cel 0)) (Nat.le_of_ble_eq_true rfl)),
      ⟨.plain rfl (by intro X; rintro _ _ ⟨rfl, rfl⟩; exact op_fn Try.func23 rfl rfl rfl (lrows_any 21 (by assumption) (by first | exact Sl.app (by assumption) _ | exact Sl.app (Sl.app (by assumption) _) _) (by assumption))),
      ⟨.plain rfl (by intro X; exact op_alloc (l := 7) tN26x),
      trivial⟩⟩⟩⟩⟩ ?_
  rintro _ _ ⟨rfl, rfl⟩ _ _ ⟨m19, a19, c19, hw19, hi19, hm19, rfl, rfl⟩ _ _ ⟨rfl, rfl⟩ _ _ ⟨a21, c21, rfl, rfl⟩ _ _ ⟨b7, rfl, rfl⟩
  have hl19 := wf_len hw19 hi19
  refine wl_norm (e' := [(1, _), (2, _), (7, _), (19, _), (21, _)]) (.cons rfl (.cons rfl (.cons rfl (.cons rfl (.cons rfl (.nil _)))))) (by dsimp only [cond_false, cond_true, List.nil_append, List.cons_append]) ?_
  refine wl_op0 [7] rfl rfl rfl (op_store rfl rfl tZ26x (by rfl) (by rfl) (by exact Nat.le_of_ble_eq_true rfl)) ?_
  rintro _ _ ⟨rfl, rfl⟩
  refine wl_det rfl rfl rfl (op_assign rfl) ?_
  refine wl_nil ?_
  refine st_tn ?_
  refine w_seq ?_
  refine w_region ?_
  refine wl_det rfl rfl rfl (op_loadA rfl tA26x (Ent.lab (l := 7) rfl (says_cel 0)) (Nat.le_of_ble_eq_true rfl)) ?_
  refine wl_det rfl rfl rfl (op_move rfl) ?_
  refine wl_det rfl rfl rfl (op_remN rfl rfl (by omega) (by omega)) ?_
  refine wl_det rfl rfl rfl (op_convI64 rfl (by rw [Try.underlying40]; rfl) Try.underlying3 (by omega)) ?_
  refine wl_op [] rfl rfl rfl rfl (op_fn Try.func19 rfl rfl rfl (not_s 27 _ (Sl.lab 19 rfl (by unfold maxLen; omega)) (by assumption) (by assumption))) ?_
  rintro _ _ ⟨m27, a27, c27, hw27, hi27, hm27, rfl, rfl⟩
  have hl27 := wf_len hw27 hi27
  refine wl_det rfl rfl rfl (op_move rfl) ?_
  refine wl_det rfl rfl rfl (op_extract rfl rfl) ?_
  refine wl_det rfl rfl rfl (op_extract rfl rfl) ?_
  refine wl_op [] rfl rfl rfl rfl (op_alloc (l := 9) tN26x) ?_
  rintro _ _ ⟨b9, rfl, rfl⟩
  refine wl_op0 [9] rfl rfl rfl (op_store rfl rfl tZ26x (by rfl) (by rfl) (by exact Nat.le_of_ble_eq_true rfl)) ?_
  rintro _ _ ⟨rfl, rfl⟩
  refine wl_det rfl rfl rfl (op_assign rfl) ?_
  refine wl_nil ?_
  refine st_tn ?_
  refine w_seq ?_
  refine w_seq ?_
  have hfin : rows m27 = (upto 0 (sz % 601 - 1)).filter (fun x => decide (¬ x ∈ rowsOf base rl)) := SS.ext (ss_rows hw27) (SS.filter (ss_upto _ _) _) (fun x => by
    rw [mem_rows]; refine (hm27 x).trans ?_
    rw [List.mem_filter, mem_upto, ← hm19, decide_eq_true_iff, mem_rows]
    constructor
    · intro h; exact ⟨by omega, h.2.2⟩
    · intro h; exact ⟨by omega, by omega, h.2⟩)
  refine w_draw (D := [⟨30, [], [], [], _, false, [], []⟩, ⟨31, [0], [], [], _, false, [], []⟩, ⟨32, [1], [], [], _, false, [], []⟩, ⟨33, [], [], [], _, false, [], []⟩, ⟨34, [], [], [], _, false, [], []⟩, ⟨35, [], [], [], _, false, [], []⟩, ⟨36, [5], [], [], _, false, [], []⟩, ⟨37, [6], [], [], _, false, [], []⟩, ⟨38, [4, 7], [], [], _, false, [], []⟩, ⟨39, [3, 8], [], [], _, false, [], []⟩, ⟨40, [9], [], [], _, false, [], []⟩, ⟨41, [2, 10], [], [], _, false, [], []⟩]) [] [10, 9, 8, 1] [⟨30, [], [], false, [], []⟩, ⟨31, [0], [], false, [], []⟩, ⟨32, [1], [], false, [], []⟩, ⟨33, [], [], false, [], []⟩, ⟨34, [], [], false, [], []⟩, ⟨35, [], [], false, [], []⟩, ⟨36, [5], [], false, [], []⟩, ⟨37, [6], [], false, [], []⟩, ⟨38, [4, 7], [], false, [], []⟩, ⟨39, [3, 8], [], false, [], []⟩, ⟨40, [9], [], false, [], []⟩, ⟨41, [2, 10], [], false, [], []⟩] tMixx (by rfl) (by kernel_rfl) (by rfl) (by rfl)
      ⟨.plain rfl (by intro X; exact op_move rfl),
      ⟨.plain rfl (by intro X; rintro _ _ ⟨rfl, rfl⟩; exact op_val (v' := .bool false) (by rw [if_pos (by omega)]; rfl) (op_neq rfl rfl)),
      ⟨.plain rfl (by intro X; rintro _ _ ⟨rfl, rfl⟩; exact op_move rfl),
      ⟨.wanted rfl rfl rfl (by rintro _ _ ⟨rfl, rfl⟩; rfl) (by intro X; exact op_loadA rfl tA26x (Ent.lab (l := 9) rfl (says_cel 0)) (Nat.le_of_ble_eq_true rfl)),
      ⟨.wanted rfl rfl rfl (by rintro _ _ ⟨rfl, rfl⟩; rfl) (by intro X; exact op_move rfl),
      ⟨.wanted rfl rfl rfl (by rintro _ _ ⟨rfl, rfl⟩; rfl) (by intro X; exact op_move rfl),
      ⟨.wanted rfl rfl rfl (by rintro _ _ ⟨rfl, rfl⟩; rfl) (by intro X; rintro _ _ ⟨rfl, rfl⟩; exact op_remN rfl rfl (by omega) (by omega)),
      ⟨.wanted rfl rfl rfl (by rintro _ _ ⟨rfl, rfl⟩; rfl) (by intro X; rintro _ _ ⟨rfl, rfl⟩; exact op_convI64 rfl (by rw [Try.underlying40]; rfl) Try.underlying3 (by omega)),
      ⟨.wanted rfl rfl rfl (by rintro _ _ ⟨rfl, rfl⟩; rfl) (by intro X; rintro _ _ ⟨rfl, rfl⟩ _ _ ⟨rfl, rfl⟩; exact op_fn Try.func38 rfl rfl rfl (rnot_any 38 _ (Sl.lab 21 rfl (by unfold maxLen; omega)) (by omega))),
      ⟨.wanted rfl rfl rfl (by rintro _ _ ⟨rfl, rfl⟩; rfl) (by intro X; rintro _ _ ⟨rfl, rfl⟩ _ _ ⟨a38, c38, rfl, rfl⟩; exact op_val (v' := .bool true) (by rw [decide_eq_true hfin]) (op_fn Try.func16 rfl rfl rfl (is_any (Sl.lab 27 rfl (by unfold maxLen; omega)) (Sl.lab 38 rfl (by unfold maxLen; omega)) (by assumption) (by assumption) (by omega)))),
      ⟨.wanted rfl rfl rfl (by rintro _ _ ⟨rfl, rfl⟩; rfl) (by intro X; rintro _ _ ⟨rfl, rfl⟩; exact op_not_t rfl),
      ⟨.plain rfl (by intro X; rintro _ _ ⟨rfl, rfl⟩ _ _ ⟨rfl, rfl⟩; exact op_pick_f rfl rfl),
      trivial⟩⟩⟩⟩⟩⟩⟩⟩⟩⟩⟩⟩ ?_
  rintro _ _ ⟨rfl, rfl⟩ _ _ ⟨rfl, rfl⟩ _ _ ⟨rfl, rfl⟩ _ _ ⟨rfl, rfl⟩ _ _ ⟨rfl, rfl⟩ _ _ ⟨rfl, rfl⟩ _ _ ⟨rfl, rfl⟩ _ _ ⟨rfl, rfl⟩ _ _ ⟨a38, c38, rfl, rfl⟩ _ _ ⟨rfl, rfl⟩ _ _ ⟨rfl, rfl⟩ _ _ ⟨rfl, rfl⟩
  refine wl_norm (e' := [(2, _), (7, _), (8, _), (41, _)]) (.cons rfl (.cons rfl (.cons rfl (.cons rfl (.nil _))))) (by dsimp only [cond_false, cond_true, List.nil_append, List.cons_append]) ?_
  refine wl_nil ?_
  refine st_tn ?_
  refine w_cond_f (rfl) ?_
  refine w_skip ?_
  refine st_tn ?_
  refine w_seq ?_
  refine w_region ?_
  refine wl_det rfl rfl rfl (op_loadA rfl tA26x (Ent.lab (l := 7) rfl (says_cel 0)) (Nat.le_of_ble_eq_true rfl)) ?_
  refine wl_det rfl rfl rfl (op_move rfl) ?_
  refine wl_op [] rfl rfl rfl rfl (op_fn Try.func39 rfl rfl rfl (shift_s 45 _ (Sl.lab 19 rfl (by unfold maxLen; omega)) (by assumption) (by assumption) (by omega))) ?_
  rintro _ _ ⟨m45, a45, c45, hw45, hi45, hm45, rfl, rfl⟩
  have hl45 := wf_len hw45 hi45
  refine wl_det rfl rfl rfl (op_move rfl) ?_
  refine wl_det rfl rfl rfl (op_extract rfl rfl) ?_
  refine wl_det rfl rfl rfl (op_extract rfl rfl) ?_
  refine wl_op [] rfl rfl rfl rfl (op_alloc (l := 11) tN26x) ?_
  rintro _ _ ⟨b11, rfl, rfl⟩
  refine wl_op0 [11] rfl rfl rfl (op_store rfl rfl tZ26x (by rfl) (by rfl) (by exact Nat.le_of_ble_eq_true rfl)) ?_
  rintro _ _ ⟨rfl, rfl⟩
  refine wl_det rfl rfl rfl (op_assign rfl) ?_
  refine wl_nil ?_
  refine st_tn ?_
  refine w_seq ?_
  refine w_region ?_
  refine wl_det rfl rfl rfl (op_assign rfl) ?_
  refine wl_nil ?_
  refine st_tn ?_
  refine w_seq ?_
  refine w_region ?_
  refine wl_det rfl rfl rfl (op_assign rfl) ?_
  refine wl_nil ?_
  refine st_tn ?_
  refine w_seq ?_
  refine w_seq ?_
  refine w_region ?_
  refine wl_det rfl rfl rfl (op_assign rfl) ?_
  refine wl_nil ?_
  refine st_tn ?_
  refine w_block ?_
  refine w_emp 13 (slO_nil 3 1) ?_
  refine w_loopQ (X := Nat × List Int × Option Addr × Nat × Bool) (fun z => z.1 ≤ (rowsOf base rl).length ∧ z.2.2.2.2 = true ∧ z.2.1 = ((rowsOf base rl).take z.1).map (fun x => x + y) ∧ ∀ x ∈ (rowsOf base rl).take z.1, 0 ≤ x + y ∧ x + y < 1048576) (fun z => [(15, .int .i64 (z.1)), (13, .slice (z.2.2.1) (z.2.1).length (z.2.2.2.1)), (14, .bool (z.2.2.2.2))]) (fun z => [(13, slW 3 SL.encZ 1 (.slice (z.2.2.1) (z.2.1).length (z.2.2.2.1)) (z.2.1))]) (fun z => (rowsOf base rl).length - z.1) ((0, [], none, 0, _)) [(2, _), (8, _), (11, _), (12, _)] [(3, _), (19, _), (21, _), (7, _), (27, _), (9, _), (38, _), (45, _), (11, _)] [13, 3, 19, 21, 7, 27, 9, 38, 45, 11] rfl (rfl) (.cons rfl (.cons rfl (.cons rfl (.nil _)))) (.cons rfl (.cons rfl (.cons rfl (.cons rfl (.nil _))))) (by
      try dsimp only
      exact ⟨Nat.zero_le _, rfl, rfl, by simp⟩) ?_
  rintro ⟨i, want, a_want, c_want, fits⟩ ⟨hi, rfl, hwant, hfit⟩
  refine w_norm2 (by dsimp only [List.cons_append, List.nil_append]) (by dsimp only [List.cons_append, List.nil_append]) ?_
  try dsimp only at hi hwant hfit ⊢
  refine w_seq ?_
  refine w_seq ?_
  refine w_region ?_
  refine wl_det rfl rfl rfl (op_move rfl) ?_
  refine wl_det rfl rfl rfl (op_move rfl) ?_
  refine wl_det rfl rfl rfl (op_lenT rfl tS22x (Sl.ent (Sl.lab 21 rfl (by unfold maxLen; omega)))) ?_
  refine wl_det rfl rfl rfl (op_lss rfl rfl) ?_
  refine wl_nil ?_
  refine st_tn ?_
  refine w_cond_d rfl (fun hc51 => ?_) (fun hc51 => ?_)
  · -- c51.t
    obtain ⟨x, hx⟩ := getE (l := rowsOf base rl) (i := i) (by omega)
    have hlt := ltE hx
    have hxb := hro2 x (List.mem_of_getElem? hx)
    have hwl : want.length = i := by rw [hwant, List.length_map, List.length_take]; omega
    refine w_skip ?_
    refine st_tn ?_
    refine w_seq ?_
    refine w_block ?_
    refine w_seq ?_
    refine w_seq ?_
    refine w_cutL [(69, .bool (decide (¬ (0 ≤ x + y ∧ x + y < 1048576))))] [2, 8, 11, 12, 13, 14, 15] [13, 3, 19, 21, 7, 27, 9, 38, 45, 11] rfl (fun K' hK => ?_) ?_
    · -- cut r13
      refine w_region ?_
      refine wl_det rfl rfl rfl (op_move rfl) ?_
      refine wl_det rfl rfl rfl (op_move rfl) ?_
      refine wl_det rfl rfl rfl (op_move rfl) ?_
      refine wl_det rfl rfl rfl (op_idx rfl rfl tS22x (Sl.ent (Sl.lab 21 rfl (by unfold maxLen; omega))) (by omega)) ?_
      refine wl_det rfl rfl rfl (op_ldx rfl tO3x (Sl.lab 21 rfl (by unfold maxLen; omega)) (by assumption) (by rfl)) ?_
      refine wl_det rfl rfl rfl (op_sub' rfl rfl (by omega)) ?_
      refine wl_det rfl rfl rfl (op_lss rfl rfl) ?_
      refine wl_det rfl rfl rfl (op_move rfl) ?_
      refine wl_gsplit (t := 61) rfl (fun hg61 => ?_) (fun hg61 => ?_)
      · -- 61 is True
        refine wl_unwanted rfl rfl rfl rfl rfl rfl rfl rfl ?_
        refine wl_unwanted rfl rfl rfl rfl rfl rfl rfl rfl ?_
        refine wl_unwanted rfl rfl rfl rfl rfl rfl rfl rfl ?_
        refine wl_unwanted rfl rfl rfl rfl rfl rfl rfl rfl ?_
        refine wl_unwanted rfl rfl rfl rfl rfl rfl rfl rfl ?_
        refine wl_unwanted rfl rfl rfl rfl rfl rfl rfl rfl ?_
        refine wl_unwanted rfl rfl rfl rfl rfl rfl rfl rfl ?_
        refine wl_det rfl rfl rfl (op_pick_t rfl rfl) ?_
        refine wl_nil ?_
        refine st_tn ?_
        exact cut_done1 [13, 3, 19, 21, 7, 27, 9, 38, 45, 11] hK rfl (by first | (rw [decide_eq_decide]; omega) | (symm; rw [decide_eq_false_iff_not]; omega) | (symm; rw [decide_eq_true_iff]; omega) | (simp; done) | (simp; omega) | (simp [*]; done) | (simp [*]; omega)) (by rfl) rfl rfl
      · -- 61 is False
        refine wl_wanted_det rfl rfl rfl rfl rfl rfl rfl (op_move rfl) ?_
        refine wl_wanted_det rfl rfl rfl rfl rfl rfl rfl (op_move rfl) ?_
        refine wl_wanted_det rfl rfl rfl rfl rfl rfl rfl (op_move rfl) ?_
        refine wl_wanted_det rfl rfl rfl rfl rfl rfl rfl (op_idx rfl rfl tS22x (Sl.ent (Sl.lab 21 rfl (by unfold maxLen; omega))) (by omega)) ?_
        refine wl_wanted_det rfl rfl rfl rfl rfl rfl rfl (op_ldx rfl tO3x (Sl.lab 21 rfl (by unfold maxLen; omega)) (by assumption) (by rfl)) ?_
        refine wl_wanted_det rfl rfl rfl rfl rfl rfl rfl (op_sub' rfl rfl (by omega)) ?_
        refine wl_wanted_det rfl rfl rfl rfl rfl rfl rfl (op_geq rfl rfl) ?_
        refine wl_det rfl rfl rfl (op_pick_f rfl rfl) ?_
        refine wl_nil ?_
        refine st_tn ?_
        exact cut_done1 [13, 3, 19, 21, 7, 27, 9, 38, 45, 11] hK rfl (by first | (rw [decide_eq_decide]; omega) | (symm; rw [decide_eq_false_iff_not]; omega) | (symm; rw [decide_eq_true_iff]; omega) | (simp; done) | (simp; omega) | (simp [*]; done) | (simp [*]; omega)) (by rfl) rfl rfl
    · -- behind r13
      show W _ _ _ _ _ [(69, _), (2, _), (8, _), (11, _), (12, _), (13, _), (14, _), (15, _)] [(13, _), (3, _), (19, _), (21, _), (7, _), (27, _), (9, _), (38, _), (45, _), (11, _)] _
      refine w_cond_d rfl (fun hc69 => ?_) (fun hc69 => ?_)
      · -- c69.t
        have hno : ¬ fitsB (rows m19) y := fun hf => hc69 (hf x (by rw [hm19]; exact List.mem_of_getElem? hx))
        obtain rfl : m45 = [] := WF.unique hw45 WF.nil hm45 (fun n => ⟨fun h => absurd h (mem_nil n), fun h => absurd h.1 hno⟩)
        refine w_seq ?_
        refine w_region ?_
        refine wl_det rfl rfl rfl (op_assign rfl) ?_
        refine wl_nil ?_
        refine st_tn ?_
        refine w_exit ?_
        refine st_te ?_
        refine st_bne rfl ?_
        refine st_te ?_
        refine st_te ?_
        refine st_be ?_
        refine st_tn ?_
        refine w_seq ?_
        refine w_seq ?_
        refine w_region ?_
        refine wl_det rfl rfl rfl (op_move rfl) ?_
        refine wl_det rfl rfl rfl (op_not_f rfl) ?_
        refine wl_nil ?_
        refine st_tn ?_
        refine w_cond_t (rfl) ?_
        refine w_seq ?_
        refine w_region ?_
        refine wl_det rfl rfl rfl (op_move rfl) ?_
        refine wl_det rfl rfl rfl (op_val (v' := .bool true) (by rw [if_neg hno]; rfl) (op_eql rfl rfl)) ?_
        refine wl_det rfl rfl rfl (op_move rfl) ?_
        refine wl_wanted_det rfl rfl rfl rfl rfl rfl rfl (op_loadA rfl tA26x (Ent.lab (l := 11) rfl (says_cel 0)) (Nat.le_of_ble_eq_true rfl)) ?_
        refine wl_wanted_det rfl rfl rfl rfl rfl rfl rfl (op_val (v' := .bool true) (by rfl) (op_fn Try.func16 rfl rfl rfl (is_any (rl := []) (l := []) (Sl.lab 45 rfl (by simp [maxLen])) slnil hw45 hi45 (by simp)))) ?_
        refine wl_det rfl rfl rfl (op_pick_t rfl rfl) ?_
        refine wl_det rfl rfl rfl (op_assign rfl) ?_
        refine wl_nil ?_
        refine st_tn ?_
        refine w_ret ?_
        refine st_tr ?_
        refine st_ret (vs := [_]) [] Try.results9 ⟨rfl, trivial⟩ rfl ?_
        refine ⟨_, rfl, ?_⟩
        exact ⟨rfl, rfl⟩
      · -- c69.f
        have hok : 0 ≤ x + y ∧ x + y < 1048576 := Classical.byContradiction hc69
        refine w_skip ?_
        refine st_tn ?_
        refine w_region ?_
        refine wl_det rfl rfl rfl (op_move rfl) ?_
        refine wl_det rfl rfl rfl (op_move rfl) ?_
        refine wl_det rfl rfl rfl (op_move rfl) ?_
        refine wl_det rfl rfl rfl (op_idx rfl rfl tS22x (Sl.ent (Sl.lab 21 rfl (by unfold maxLen; omega))) (by omega)) ?_
        refine wl_det rfl rfl rfl (op_ldx rfl tO3x (Sl.lab 21 rfl (by unfold maxLen; omega)) (by assumption) (by rfl)) ?_
        refine wl_det rfl rfl rfl (op_move rfl) ?_
        refine wl_det rfl rfl rfl (op_add' rfl rfl (by omega)) ?_
        refine wl_op [] rfl rfl rfl rfl (op_buildSlice (enc := SL.encZ) (l := [_]) (lab := 77) tL22_1x rfl rfl (fun _ => rfl) rfl) ?_
        rintro _ _ ⟨a77, c77, rfl, rfl⟩
        refine wl_op [13] rfl rfl rfl rfl (op_append (lab := 13) (lab' := 78) rfl rfl tP22x SL.enc1Z (Sl.lab 77 rfl (by simp [maxLen])) (by first | omega | (simp; done) | (simp; omega) | (simp [*]; omega)) (by first | omega | (simp; done) | (simp; omega) | (simp [*]; omega))) ?_
        rintro _ _ ⟨a78, c78, rfl, rfl⟩
        refine wl_det rfl rfl rfl (op_assign rfl) ?_
        refine wl_nil ?_
        refine st_bn ?_
        refine st_tn ?_
        refine w_region ?_
        refine wl_det rfl rfl rfl (op_move rfl) ?_
        refine wl_det rfl rfl rfl (op_add' rfl rfl (by omega)) ?_
        refine wl_det rfl rfl rfl (op_assign rfl) ?_
        refine wl_nil ?_
        refine st_roundQ (x := (i, want, a_want, c_want, true)) ((i + 1, _, _, _, _)) [78, 3, 19, 21, 7, 27, 9, 38, 45, 11] rfl (rfl) (.cons rfl (.cons rfl (.cons rfl (.nil _)))) (.cons rfl (.cons rfl (.cons rfl (.cons rfl (.nil _))))) (by
            try dsimp only
            refine ⟨by omega, rfl, ?_, ?_⟩
            · rw [hwant, take_snoc hx, List.map_append]; rfl
            · intro z hz
              rw [take_snoc hx] at hz
              rcases List.mem_append.1 hz with hz | hz
              · exact hfit z hz
              · simp at hz; subst hz; exact hok) (by
            try dsimp only
            omega) 
  · -- c51.f
    have hall := take_all (l := rowsOf base rl) (i := i) (by omega)
    rw [hall] at hwant hfit
    have hyes : fitsB (rows m19) y := fun x hx => hfit x (by rw [← hm19]; exact hx)
    have hwl : want.length = (rowsOf base rl).length := by rw [hwant, List.length_map]
    have hfin2 : rows m45 = want := by
      refine SS.ext (ss_rows hw45) ?_ (fun x => ?_)
      · rw [hwant]; unfold SS; rw [List.pairwise_map]; exact hro1.imp (fun h => by omega)
      · rw [mem_rows]; refine (hm45 x).trans ?_
        show (fitsB (rows m19) y ∧ mem m19 (x - y)) ↔ _
        rw [← mem_rows, hm19, hwant, List.mem_map]
        constructor
        · intro h; exact ⟨x - y, h.2, by omega⟩
        · rintro ⟨z, hz, rfl⟩; exact ⟨hm19 ▸ hyes, by rw [show z + y - y = z by omega]; exact hz⟩
    refine w_exit ?_
    refine st_te ?_
    refine st_te ?_
    refine st_be ?_
    refine st_tn ?_
    refine w_seq ?_
    refine w_seq ?_
    refine w_region ?_
    refine wl_det rfl rfl rfl (op_move rfl) ?_
    refine wl_det rfl rfl rfl (op_not_t rfl) ?_
    refine wl_nil ?_
    refine st_tn ?_
    refine w_cond_f (rfl) ?_
    refine w_skip ?_
    refine st_tn ?_
    refine w_seq ?_
    refine w_region ?_
    refine wl_det rfl rfl rfl (op_move rfl) ?_
    refine wl_det rfl rfl rfl (op_val (v' := .bool true) (by rw [if_pos hyes]; rfl) (op_eql rfl rfl)) ?_
    refine wl_det rfl rfl rfl (op_move rfl) ?_
    refine wl_wanted_det rfl rfl rfl rfl rfl rfl rfl (op_loadA rfl tA26x (Ent.lab (l := 11) rfl (says_cel 0)) (Nat.le_of_ble_eq_true rfl)) ?_
    refine wl_wanted_det rfl rfl rfl rfl rfl rfl rfl (op_move rfl) ?_
    refine wl_wanted_det rfl rfl rfl rfl rfl rfl rfl (op_val (v' := .bool true) (by rw [decide_eq_true hfin2]) (op_fn Try.func16 rfl rfl rfl (is_any (Sl.lab 45 rfl (by unfold maxLen; omega)) (Sl.lab 13 rfl (by unfold maxLen; omega)) (by assumption) (by assumption) (by omega)))) ?_
    refine wl_det rfl rfl rfl (op_pick_t rfl rfl) ?_
    refine wl_det rfl rfl rfl (op_assign rfl) ?_
    refine wl_nil ?_
    refine st_tn ?_
    refine w_ret ?_
    refine st_ret (vs := [_]) [] Try.results9 ⟨rfl, trivial⟩ rfl ?_
    refine ⟨_, rfl, ?_⟩
    exact ⟨rfl, rfl⟩

theorem chk_ok : ∀ {l : List Run} {prev : Option Run}, WF l → inB 0 1048575 l → (∀ q, prev = some q → ∀ r ∈ l, q.2 + 1 < r.1) → chkFrom prev l = 0
  | [], _, _, _, _ => rfl
  | r :: l, prev, hw, hi, hp => by
    obtain ⟨h1, h2, h3⟩ := WF.cons_iff.1 hw
    have hr := hi r (by simp)
    have he : errAt prev r = none := by
      unfold errAt
      rw [if_neg (by omega), if_neg]
      rintro (h | ⟨q, hq, h⟩)
      · omega
      · have := hp q hq r (by simp); omega
    unfold chkFrom
    rw [he]
    exact chk_ok h3 (fun x hx => hi x (by simp [hx])) (fun q hq x hx => by simp at hq; subst hq; exact h2 x hx)
set_option maxHeartbeats 4000000 in
set_option maxRecDepth 100000 in
theorem lawRuns_any {σ : World} {F : List Res} {a a0 : Option Addr} {c c0 : Nat} {rl : List (Int × Int)} {l : List Run} {base : Int} (hb : 0 ≤ base ∧ base ≤ 65535) (h : Sl σ F encP8 2 (.slice a rl.length c) rl) (hr : ∀ r ∈ rl, (0 ≤ r.1 ∧ r.1 ≤ 255) ∧ 0 ≤ r.2 ∧ r.2 ≤ 255) (hl : Sl σ F encRun 2 (.slice a0 l.length c0) l) :
    FnT Try.prog σ F 8 [.slice a0 l.length c0, .agg #[.int .u16 base, .slice a rl.length c]] [] (fun u ρ => u = .bool true ∧ ρ = []) := by
  refine fn_of 84 Try.func8 rfl Try.ntmps8 rfl ?_
  obtain ⟨hro1, hro2, hro3⟩ := rowsOf_ok hb.1 rl
  have hle := hl.i64
  have hlm := hl.le
  refine w_seq ?_
  refine w_region ?_
  refine wl_op [] rfl rfl rfl rfl (op_box (T := 43) (l := 3) rfl) ?_
  rintro _ _ ⟨b3, rfl, rfl⟩
  refine wl_det rfl rfl rfl (op_assign rfl) ?_
  refine wl_nil ?_
  refine st_tn ?_
  refine w_seq ?_
  refine w_seq ?_
  refine w_cutL [(18, .bool (decide (l.length > 12)))] [0, 3] [3] rfl (fun K' hK => ?_) ?_
  · -- cut r1
    refine w_region ?_
    refine wl_det rfl rfl rfl (op_fn Try.func13 rfl rfl rfl (known_any)) ?_
    refine wl_det rfl rfl rfl (op_not_t rfl) ?_
    refine wl_det rfl rfl rfl (op_move rfl) ?_
    refine wl_wanted_det rfl rfl rfl rfl rfl rfl rfl (op_move rfl) ?_
    refine wl_wanted_det rfl rfl rfl rfl rfl rfl rfl (op_lenT rfl tS24x (Sl.ent (by first | exact Sl.app (by assumption) _ | exact Sl.app (Sl.app (by assumption) _) _))) ?_
    refine wl_wanted_det rfl rfl rfl rfl rfl rfl rfl (op_gtr rfl rfl) ?_
    refine wl_det rfl rfl rfl (op_pick_f rfl rfl) ?_
    refine wl_nil ?_
    refine st_tn ?_
    exact cut_done1 [3] hK rfl (by first | (rw [decide_eq_decide]; omega) | (symm; rw [decide_eq_false_iff_not]; omega) | (symm; rw [decide_eq_true_iff]; omega) | (simp; done) | (simp; omega) | (simp [*]; done) | (simp [*]; omega)) (by rfl) rfl rfl
  · -- behind r1
    show W _ _ _ _ _ [(18, _), (0, _), (3, _)] [(3, _)] _
    refine w_cond_d rfl (fun hc18 => ?_) (fun hc18 => ?_)
    · -- c18.t
      refine w_seq ?_
      refine w_region ?_
      refine wl_det rfl rfl rfl (op_fn Try.func13 rfl rfl rfl (known_any)) ?_
      refine wl_det rfl rfl rfl (op_assign rfl) ?_
      refine wl_nil ?_
      refine st_tn ?_
      refine w_ret ?_
      refine st_tr ?_
      refine st_ret (vs := [_]) [] Try.results8 ⟨rfl, trivial⟩ rfl ?_
      refine ⟨_, rfl, ?_⟩
      exact ⟨rfl, rfl⟩
    · -- c18.f
      refine w_skip ?_
      refine st_tn ?_
      refine w_seq ?_
      refine w_region ?_
      refine wl_det rfl rfl rfl (op_assign rfl) ?_
      refine wl_nil ?_
      refine st_tn ?_
      refine w_seq ?_
      refine w_seq ?_
      refine w_region ?_
      refine wl_det rfl rfl rfl (op_assign rfl) ?_
      refine wl_nil ?_
      refine st_tn ?_
      refine w_block ?_
      refine w_emp 5 (slO_nil 37 2) ?_
      refine w_loopQ (X := Nat × List Run × Option Addr × Nat) (fun z => z.1 ≤ l.length ∧ z.2.1 = l.take z.1) (fun z => [(6, .int .i64 (z.1)), (5, .slice (z.2.2.1) (z.2.1).length (z.2.2.2))]) (fun z => [(5, slW 37 encRun 2 (.slice (z.2.2.1) (z.2.1).length (z.2.2.2)) (z.2.1))]) (fun z => l.length - z.1) ((0, [], none, 0)) [(0, _), (3, _)] [(3, _)] [5, 3] rfl (rfl) (.cons rfl (.cons rfl (.nil _))) (.cons rfl (.cons rfl (.nil _))) (by
          try dsimp only
          exact ⟨Nat.zero_le _, rfl⟩) ?_
      rintro ⟨i, pairs, a_pairs, c_pairs⟩ ⟨hi, hp⟩
      refine w_norm2 (by dsimp only [List.cons_append, List.nil_append]) (by dsimp only [List.cons_append, List.nil_append]) ?_
      try dsimp only at hi hp ⊢
      refine w_seq ?_
      refine w_seq ?_
      refine w_region ?_
      refine wl_det rfl rfl rfl (op_move rfl) ?_
      refine wl_det rfl rfl rfl (op_move rfl) ?_
      refine wl_det rfl rfl rfl (op_lenT rfl tS24x (Sl.ent (by first | exact Sl.app (by assumption) _ | exact Sl.app (Sl.app (by assumption) _) _))) ?_
      refine wl_det rfl rfl rfl (op_lss rfl rfl) ?_
      refine wl_nil ?_
      refine st_tn ?_
      refine w_cond_d rfl (fun hc23 => ?_) (fun hc23 => ?_)
      · -- c23.t
        obtain ⟨x, hx⟩ := getE (l := l) (i := i) (by omega)
        have hlt := ltE hx
        have hpl : pairs.length = i := by rw [hp, List.length_take]; omega
        refine w_skip ?_
        refine st_tn ?_
        refine w_seq ?_
        refine w_block ?_
        refine w_draw (D := [⟨26, [], [], [], _, false, [], []⟩, ⟨27, [], [], [], _, false, [], []⟩, ⟨28, [], [], [], _, false, [], []⟩, ⟨29, [1, 2], [], [], _, false, [], []⟩, ⟨30, [3], [], [], _, false, [], []⟩, ⟨31, [4], [], [], _, false, [], []⟩, ⟨32, [], [], [], _, false, [], []⟩, ⟨33, [], [], [], _, false, [], []⟩, ⟨34, [6, 7], [], [], _, false, [], []⟩, ⟨35, [8], [], [], _, false, [], []⟩, ⟨36, [9], [], [], _, false, [], []⟩, ⟨37, [5, 10], [], [], _, false, [], []⟩, ⟨38, [11], [], [], _, false, [], []⟩]) [] [5, 0, 6] [⟨26, [], [], false, [], []⟩, ⟨27, [], [], false, [], []⟩, ⟨28, [], [], false, [], []⟩, ⟨29, [1, 2], [], false, [], []⟩, ⟨30, [3], [], false, [], []⟩, ⟨31, [4], [], false, [], []⟩, ⟨32, [], [], false, [], []⟩, ⟨33, [], [], false, [], []⟩, ⟨34, [6, 7], [], false, [], []⟩, ⟨35, [8], [], false, [], []⟩, ⟨36, [9], [], false, [], []⟩, ⟨37, [5, 10], [], false, [], []⟩, ⟨38, [11], [], false, [], []⟩] tMixx (by rfl) (by kernel_rfl) (by rfl) (by rfl)
            ⟨.plain rfl (by intro X; exact op_move rfl),
            ⟨.plain rfl (by intro X; exact op_move rfl),
            ⟨.plain rfl (by intro X; exact op_move rfl),
            ⟨.plain rfl (by intro X; rintro _ _ ⟨rfl, rfl⟩ _ _ ⟨rfl, rfl⟩; exact op_idx rfl rfl tS24x (Sl.ent (by first | exact Sl.app (by assumption) _ | exact Sl.app (Sl.app (by assumption) _) _)) (by omega)),
            ⟨.plain rfl (by intro X; rintro _ _ ⟨rfl, rfl⟩; exact op_fieldAddr (off := 0) rfl tF58_0x),
            ⟨.plain rfl (by intro X; rintro _ _ ⟨rfl, rfl⟩; exact op_ldxf rfl tO3x (by first | exact Sl.app (by assumption) _ | exact Sl.app (Sl.app (by assumption) _) _) (by assumption) (by rfl)),
            ⟨.plain rfl (by intro X; exact op_move rfl),
            ⟨.plain rfl (by intro X; exact op_move rfl),
            ⟨.plain rfl (by intro X; rintro _ _ ⟨rfl, rfl⟩ _ _ ⟨rfl, rfl⟩; exact op_idx rfl rfl tS24x (Sl.ent (by first | exact Sl.app (by assumption) _ | exact Sl.app (Sl.app (by assumption) _) _)) (by omega)),
            ⟨.plain rfl (by intro X; rintro _ _ ⟨rfl, rfl⟩; exact op_fieldAddr (off := 1) rfl tF58_1x),
            ⟨.plain rfl (by intro X; rintro _ _ ⟨rfl, rfl⟩; exact op_ldxf rfl tO3x (by first | exact Sl.app (by assumption) _ | exact Sl.app (Sl.app (by assumption) _) _) (by assumption) (by rfl)),
            ⟨.plain rfl (by intro X; rintro _ _ ⟨rfl, rfl⟩ _ _ ⟨rfl, rfl⟩; exact op_buildArr tC37x rfl rfl),
            ⟨.plain rfl (by intro X; rintro _ _ ⟨rfl, rfl⟩; exact op_buildSlice (enc := encRun) (l := [x]) (lab := 38) tL38_1x rfl rfl (fun _ => rfl) rfl),
            trivial⟩⟩⟩⟩⟩⟩⟩⟩⟩⟩⟩⟩⟩ ?_
        rintro _ _ ⟨rfl, rfl⟩ _ _ ⟨rfl, rfl⟩ _ _ ⟨rfl, rfl⟩ _ _ ⟨rfl, rfl⟩ _ _ ⟨rfl, rfl⟩ _ _ ⟨rfl, rfl⟩ _ _ ⟨rfl, rfl⟩ _ _ ⟨rfl, rfl⟩ _ _ ⟨rfl, rfl⟩ _ _ ⟨rfl, rfl⟩ _ _ ⟨rfl, rfl⟩ _ _ ⟨rfl, rfl⟩ _ _ ⟨a38, c38, rfl, rfl⟩
        refine wl_norm (e' := [(0, _), (3, _), (6, _), (26, _), (38, _)]) (.cons rfl (.cons rfl (.cons rfl (.cons rfl (.cons rfl (.nil _)))))) (by dsimp only [cond_false, cond_true, List.nil_append, List.cons_append]) ?_
        refine wl_op [5] rfl rfl rfl rfl (op_append (lab := 5) (lab' := 39) rfl rfl tP38x enc1Run (Sl.lab 38 rfl (by simp [maxLen])) (by simp; omega) (by simp; omega)) ?_
        rintro _ _ ⟨a39, c39, rfl, rfl⟩
        refine wl_det rfl rfl rfl (op_assign rfl) ?_
        refine wl_nil ?_
        refine st_bn ?_
        refine st_tn ?_
        refine w_region ?_
        refine wl_det rfl rfl rfl (op_move rfl) ?_
        refine wl_det rfl rfl rfl (op_add' rfl rfl (by omega)) ?_
        refine wl_det rfl rfl rfl (op_assign rfl) ?_
        refine wl_nil ?_
        refine st_roundQ (x := (i, pairs, a_pairs, c_pairs)) ((i + 1, _, _, _)) [39, 3] rfl (rfl) (.cons rfl (.cons rfl (.nil _))) (.cons rfl (.cons rfl (.nil _))) (by
            try dsimp only
            exact ⟨by omega, by rw [hp, take_snoc hx]⟩) (by
            try dsimp only
            omega) 
      · -- c23.f
        have hpairs : pairs = l := by rw [hp, take_all (by omega)]
        subst hpairs
        refine w_exit ?_
        refine st_te ?_
        refine st_te ?_
        refine st_be ?_
        refine st_tn ?_
        refine w_seq ?_
        refine w_region ?_
        refine wl_det rfl rfl rfl (op_move rfl) ?_
        refine wl_op [] rfl rfl rfl rfl (op_fn Try.func35 rfl rfl rfl (fromRuns_s 42 (Sl.app hl _) (by omega))) ?_
        rintro _ _ ⟨m42, a42, c42, hw42, hi42, hm42, rfl, rfl⟩
        have hl42 := wf_len hw42 hi42
        refine wl_det rfl rfl rfl (op_move rfl) ?_
        refine wl_det rfl rfl rfl (op_extract rfl rfl) ?_
        refine wl_det rfl rfl rfl (op_extract rfl rfl) ?_
        refine wl_op [] rfl rfl rfl rfl (op_alloc (l := 7) tN26x) ?_
        rintro _ _ ⟨b7, rfl, rfl⟩
        refine wl_op0 [7] rfl rfl rfl (op_store rfl rfl tZ26x (by rfl) (by rfl) (by exact Nat.le_of_ble_eq_true rfl)) ?_
        rintro _ _ ⟨rfl, rfl⟩
        refine wl_det rfl rfl rfl (op_assign rfl) ?_
        refine wl_nil ?_
        refine st_tn ?_
        refine w_seq ?_
        refine w_region ?_
        refine wl_det rfl rfl rfl (op_move rfl) ?_
        refine wl_det rfl rfl rfl (op_fn Try.func36 rfl rfl rfl (checkRuns_any (Sl.lab 5 rfl (by unfold maxLen; omega)))) ?_
        refine wl_det rfl rfl rfl (op_assign rfl) ?_
        refine wl_nil ?_
        refine st_tn ?_
        refine w_seq ?_
        refine w_seq ?_
        refine w_cutL [(68, .bool false)] [3] [5, 3, 42, 7] rfl (fun K' hK => ?_) ?_
        · -- cut r10
          by_cases hz : chkFrom none pairs = 0
          · -- hz+
            have hpl : m42 = pairs := by
              obtain ⟨q1, q2, _⟩ := chkFrom_wf hz
              exact WF.unique hw42 q1 hm42 (fun n => ⟨fun h => ⟨hz, h⟩, fun h => h.2⟩)
            refine w_region ?_
            refine wl_det rfl rfl rfl (op_move rfl) ?_
            refine wl_det rfl rfl rfl (op_move rfl) ?_
            refine wl_det rfl rfl rfl (op_val (v' := .bool false) (by simp) (op_neq rfl rfl)) ?_
            refine wl_det rfl rfl rfl (op_move rfl) ?_
            refine wl_wanted_det rfl rfl rfl rfl rfl rfl rfl (op_move rfl) ?_
            refine wl_wanted_det rfl rfl rfl rfl rfl rfl rfl (op_val (v' := .bool true) (by rw [decide_eq_true hz]) (op_eql rfl rfl)) ?_
            refine wl_wanted_det rfl rfl rfl rfl rfl rfl rfl (op_move rfl) ?_
            refine wl_wanted_det rfl rfl rfl rfl rfl rfl rfl (op_loadA rfl tA26x (Ent.lab (l := 7) rfl (says_cel 0)) (Nat.le_of_ble_eq_true rfl)) ?_
            refine wl_wanted_det rfl rfl rfl rfl rfl rfl rfl (op_move rfl) ?_
            refine wl_wanted_det rfl rfl rfl rfl rfl rfl rfl (op_val (v' := .bool true) (by rw [decide_eq_true hpl]) (op_fn Try.func21 rfl rfl rfl (runs_eq (Sl.lab 42 rfl (by unfold maxLen; omega)) (Sl.lab 5 rfl (by unfold maxLen; omega)) (by omega)))) ?_
            refine wl_wanted_det rfl rfl rfl rfl rfl rfl rfl (op_not_t rfl) ?_
            refine wl_wanted_det rfl rfl rfl rfl rfl rfl rfl (op_pick_t rfl rfl) ?_
            refine wl_det rfl rfl rfl (op_pick_f rfl rfl) ?_
            refine wl_det rfl rfl rfl (op_move rfl) ?_
            refine wl_wanted_det rfl rfl rfl rfl rfl rfl rfl (op_move rfl) ?_
            refine wl_wanted_det rfl rfl rfl rfl rfl rfl rfl (op_val (v' := .bool false) (by rw [hz]; rfl) (op_neq rfl rfl)) ?_
            refine wl_wanted_det rfl rfl rfl rfl rfl rfl rfl (op_move rfl) ?_
            refine wl_unwanted rfl rfl rfl rfl rfl rfl rfl rfl ?_
            refine wl_unwanted rfl rfl rfl rfl rfl rfl rfl rfl ?_
            refine wl_unwanted rfl rfl rfl rfl rfl rfl rfl rfl ?_
            refine wl_wanted_det rfl rfl rfl rfl rfl rfl rfl (op_pick_f rfl rfl) ?_
            refine wl_det rfl rfl rfl (op_pick_f rfl rfl) ?_
            refine wl_nil ?_
            refine st_tn ?_
            exact cut_done (L' := [5, 3, 42, 7]) hK (by intro q hq; simp only [List.mem_cons, List.not_mem_nil, or_false] at hq; subst hq; all_goals first | rfl | (show some _ = some _; simp [*]; done)) (by rfl) rfl rfl
          · -- hz-
            obtain rfl : m42 = [] := WF.unique hw42 WF.nil hm42 (fun n => ⟨fun h => absurd h (mem_nil n), fun h => absurd h.1 hz⟩)
            refine w_region ?_
            refine wl_det rfl rfl rfl (op_move rfl) ?_
            refine wl_det rfl rfl rfl (op_move rfl) ?_
            refine wl_det rfl rfl rfl (op_val (v' := .bool false) (by simp) (op_neq rfl rfl)) ?_
            refine wl_det rfl rfl rfl (op_move rfl) ?_
            refine wl_wanted_det rfl rfl rfl rfl rfl rfl rfl (op_move rfl) ?_
            refine wl_wanted_det rfl rfl rfl rfl rfl rfl rfl (op_val (v' := .bool false) (by rw [decide_eq_false hz]) (op_eql rfl rfl)) ?_
            refine wl_wanted_det rfl rfl rfl rfl rfl rfl rfl (op_move rfl) ?_
            refine wl_unwanted rfl rfl rfl rfl rfl rfl rfl rfl ?_
            refine wl_unwanted rfl rfl rfl rfl rfl rfl rfl rfl ?_
            refine wl_unwanted rfl rfl rfl rfl rfl rfl rfl rfl ?_
            refine wl_unwanted rfl rfl rfl rfl rfl rfl rfl rfl ?_
            refine wl_wanted_det rfl rfl rfl rfl rfl rfl rfl (op_pick_f rfl rfl) ?_
            refine wl_det rfl rfl rfl (op_pick_f rfl rfl) ?_
            refine wl_det rfl rfl rfl (op_move rfl) ?_
            refine wl_wanted_det rfl rfl rfl rfl rfl rfl rfl (op_move rfl) ?_
            refine wl_wanted_det rfl rfl rfl rfl rfl rfl rfl (op_val (v' := .bool true) (by rw [decide_eq_true hz]) (op_neq rfl rfl)) ?_
            refine wl_wanted_det rfl rfl rfl rfl rfl rfl rfl (op_move rfl) ?_
            refine wl_wanted_det rfl rfl rfl rfl rfl rfl rfl (op_loadA rfl tA26x (Ent.lab (l := 7) rfl (says_cel 0)) (Nat.le_of_ble_eq_true rfl)) ?_
            refine wl_wanted_det rfl rfl rfl rfl rfl rfl rfl (op_val (v' := .int .i64 0) (by rfl) (op_fn Try.func20 rfl rfl rfl (len_s (rl := []) (Sl.lab 42 rfl (by simp [maxLen])) hw42 hi42))) ?_
            refine wl_wanted_det rfl rfl rfl rfl rfl rfl rfl (op_val (v' := .bool false) (by rfl) (op_neq rfl rfl)) ?_
            refine wl_wanted_det rfl rfl rfl rfl rfl rfl rfl (op_pick_t rfl rfl) ?_
            refine wl_det rfl rfl rfl (op_pick_f rfl rfl) ?_
            refine wl_nil ?_
            refine st_tn ?_
            exact cut_done (L' := [5, 3, 42, 7]) hK (by intro q hq; simp only [List.mem_cons, List.not_mem_nil, or_false] at hq; subst hq; all_goals first | rfl | (show some _ = some _; simp [*]; done)) (by rfl) rfl rfl
        · -- behind r10
          show W _ _ _ _ _ [(68, _), (3, _)] [(5, _), (3, _), (42, _), (7, _)] _
          refine w_cond_f (rfl) ?_
          refine w_skip ?_
          refine st_tn ?_
          refine w_seq ?_
          refine w_region ?_
          refine wl_det rfl rfl rfl (op_loadA rfl tA43x (Ent.lab (l := 3) rfl (says_cel 0)) (Nat.le_of_ble_eq_true rfl)) ?_
          refine wl_op [] rfl rfl rfl rfl (op_fn Try.func22 rfl rfl rfl (made_any 71 (by assumption) (by first | exact Sl.app (by assumption) _ | exact Sl.app (Sl.app (by assumption) _) _) (by assumption))) ?_
          rintro _ _ ⟨m71, a71, c71, hw71, hi71, hm71, rfl, rfl⟩
          have hl71 := wf_len hw71 hi71
          refine wl_op [] rfl rfl rfl rfl (op_fn Try.func37 rfl rfl rfl (runs_any 72 (Sl.lab 71 rfl (by unfold maxLen; omega)) (by omega))) ?_
          rintro _ _ ⟨a72, c72, rfl, rfl⟩
          refine wl_op [] rfl rfl rfl rfl (op_fn Try.func35 rfl rfl rfl (fromRuns_s 73 (Sl.lab 72 rfl (by unfold maxLen; omega)) (by omega))) ?_
          rintro _ _ ⟨m73, a73, c73, hw73, hi73, hm73, rfl, rfl⟩
          have hl73 := wf_len hw73 hi73
          refine wl_det rfl rfl rfl (op_move rfl) ?_
          refine wl_det rfl rfl rfl (op_extract rfl rfl) ?_
          refine wl_det rfl rfl rfl (op_extract rfl rfl) ?_
          refine wl_op [] rfl rfl rfl rfl (op_alloc (l := 10) tN26x) ?_
          rintro _ _ ⟨b10, rfl, rfl⟩
          refine wl_op0 [10] rfl rfl rfl (op_store rfl rfl tZ26x (by rfl) (by rfl) (by exact Nat.le_of_ble_eq_true rfl)) ?_
          rintro _ _ ⟨rfl, rfl⟩
          refine wl_det rfl rfl rfl (op_assign rfl) ?_
          refine wl_nil ?_
          refine st_tn ?_
          refine w_seq ?_
          have hz2 := chk_ok (prev := none) hw71 hi71 (by simp)
          have hfin : rows m73 = rowsOf base rl := by
            rw [← hm71]
            exact SS.ext (ss_rows hw73) (ss_rows hw71) (fun x => by rw [mem_rows, mem_rows]; refine (hm73 x).trans ⟨fun h => h.2, fun h => ⟨hz2, h⟩⟩)
          refine w_draw (D := [⟨76, [], [], [], _, false, [], []⟩, ⟨77, [0], [], [], _, false, [], []⟩, ⟨78, [1], [], [], _, false, [], []⟩, ⟨79, [], [], [], _, false, [], []⟩, ⟨80, [], [], [], _, false, [], []⟩, ⟨81, [4], [], [], _, false, [], []⟩, ⟨82, [3, 5], [], [], _, false, [], []⟩, ⟨83, [2, 6], [], [], _, false, [], []⟩]) [] [11, 10, 3] [⟨76, [], [], false, [], []⟩, ⟨77, [0], [], false, [], []⟩, ⟨78, [1], [], false, [], []⟩, ⟨79, [], [], false, [], []⟩, ⟨80, [], [], false, [], []⟩, ⟨81, [4], [], false, [], []⟩, ⟨82, [3, 5], [], false, [], []⟩, ⟨83, [2, 6], [], false, [], []⟩] tMixx (by rfl) (by kernel_rfl) (by rfl) (by rfl)
              ⟨.plain rfl (by intro X; exact op_move rfl),
              ⟨.plain rfl (by intro X; rintro _ _ ⟨rfl, rfl⟩; exact op_val (v' := .bool true) (by rw [decide_eq_true hz2]) (op_eql rfl rfl)),
              ⟨.plain rfl (by intro X; rintro _ _ ⟨rfl, rfl⟩; exact op_move rfl),
              ⟨.wanted rfl rfl rfl (by rintro _ _ ⟨rfl, rfl⟩; rfl) (by intro X; exact op_loadA rfl tA26x (Ent.lab (l := 10) rfl (says_cel 0)) (Nat.le_of_ble_eq_true rfl)),
              ⟨.wanted rfl rfl rfl (by rintro _ _ ⟨rfl, rfl⟩; rfl) (by intro X; exact op_loadA rfl tA43x (Ent.lab (l := 3) rfl (says_cel 0)) (Nat.le_of_ble_eq_true rfl)),
              ⟨.wanted rfl rfl rfl (by rintro _ _ ⟨rfl, rfl⟩; rfl) (by intro X; rintro _ _ ⟨rfl, rfl⟩; exact op_fn Try.func23 rfl rfl rfl (lrows_any 81 (by assumption) (by first | exact Sl.app (by assumption) _ | exact Sl.app (Sl.app (by assumption) _) _) (by assumption))),
              ⟨.wanted rfl rfl rfl (by rintro _ _ ⟨rfl, rfl⟩; rfl) (by intro X; rintro _ _ ⟨rfl, rfl⟩ _ _ ⟨a81, c81, rfl, rfl⟩; exact op_val (v' := .bool true) (by rw [decide_eq_true hfin]) (op_fn Try.func16 rfl rfl rfl (is_any (Sl.lab 73 rfl (by unfold maxLen; omega)) (Sl.lab 81 rfl (by unfold maxLen; omega)) (by assumption) (by assumption) (by omega)))),
              ⟨.plain rfl (by intro X; rintro _ _ ⟨rfl, rfl⟩ _ _ ⟨rfl, rfl⟩; exact op_pick_t rfl rfl),
              trivial⟩⟩⟩⟩⟩⟩⟩⟩ ?_
          rintro _ _ ⟨rfl, rfl⟩ _ _ ⟨rfl, rfl⟩ _ _ ⟨rfl, rfl⟩ _ _ ⟨rfl, rfl⟩ _ _ ⟨rfl, rfl⟩ _ _ ⟨a81, c81, rfl, rfl⟩ _ _ ⟨rfl, rfl⟩ _ _ ⟨rfl, rfl⟩
          refine wl_norm (e' := [(83, _)]) (.cons rfl (.nil _)) (by dsimp only [cond_false, cond_true, List.nil_append, List.cons_append]) ?_
          refine wl_det rfl rfl rfl (op_assign rfl) ?_
          refine wl_nil ?_
          refine st_tn ?_
          refine w_ret ?_
          refine st_ret (vs := [_]) [] Try.results8 ⟨rfl, trivial⟩ rfl ?_
          refine ⟨_, rfl, ?_⟩
          exact ⟨rfl, rfl⟩

end Go.Proofs.Ytkknlfhncheflaa
