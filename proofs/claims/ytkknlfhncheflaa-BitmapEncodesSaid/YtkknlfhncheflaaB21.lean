/- The laws BitmapRanks and BitmapAdds (layer 5). Conditions: none. -/
import Derived.Test.YtkknlfhncheflaaB20
import Derived.Test.YtkknlfhncheflaaSlD
namespace Go.Proofs.Ytkknlfhncheflaa
open Go Go.SL Go.RowKit Go.BitM
set_option linter.unusedVariables false
set_option linter.unusedSimpArgs false
theorem tA26v : aggB Try.prog 26 1 = true := by kernel_rfl
theorem tA43v : aggB Try.prog 43 2 = true := by kernel_rfl
theorem tMixv : Try.prog.follows .mixedOrders = true := by kernel_rfl
theorem tN26v : (Try.prog.info? 26).bind (·.zero) = some (Value.agg #[Value.slice none 0 0]) := by kernel_rfl
theorem tO3v : oneB Try.prog 3 = true := by kernel_rfl
theorem tS22v : sliceB Try.prog 22 3 1 = true := by kernel_rfl
theorem tZ26v : (Try.prog.info? 26).map (·.size) = some 1 := by kernel_rfl

theorem nth_some {l : List Int} {n x : Int} (h : nth l n = some x) : 0 ≤ n ∧ n < l.length ∧ l[n.toNat]? = some x := by
  unfold nth at h
  split at h
  · simp at h
  · have := (List.getElem?_eq_some_iff.1 h).1
    exact ⟨by omega, by omega, h⟩
theorem nth_isSome (l : List Int) (n : Int) : (nth l n).isSome = decide (0 ≤ n ∧ n < l.length) := by
  unfold nth
  split
  · rw [Option.isSome_none]; symm; rw [decide_eq_false_iff_not]; omega
  · rename_i h
    cases hx : l[n.toNat]? with
    | none => have := List.getElem?_eq_none_iff.1 hx; rw [Option.isSome_none]; symm; rw [decide_eq_false_iff_not]; omega
    | some x => have := (List.getElem?_eq_some_iff.1 hx).1; rw [Option.isSome_some]; symm; rw [decide_eq_true_iff]; omega
theorem nth_nat {l : List Int} {k : Nat} {x : Int} (h : l[k]? = some x) : nth l (k : Int) = some x := by
  unfold nth; rw [if_neg (by omega)]; simpa using h
theorem filter_lt_nth : ∀ {l : List Int} {k : Nat} {x : Int}, SS l → l[k]? = some x → (l.filter fun y => decide (y < x)).length = k
  | [], k, x, _, h => by simp at h
  | a :: l, 0, x, hs, h => by
    simp at h; subst h
    have := List.pairwise_cons.1 hs
    rw [List.filter_cons_of_neg (by simp)]
    have : l.filter (fun y => decide (y < a)) = [] := by rw [List.filter_eq_nil_iff]; intro y hy; have := this.1 y hy; simp; omega
    rw [this]; rfl
  | a :: l, k + 1, x, hs, h => by
    have hc := List.pairwise_cons.1 hs
    have h' : l[k]? = some x := by simpa using h
    have := hc.1 x (List.mem_of_getElem? h')
    rw [List.filter_cons_of_pos (by simpa using this), List.length_cons, filter_lt_nth hc.2 h']
set_option maxHeartbeats 4000000 in
set_option maxRecDepth 100000 in
theorem lawRanks_any {σ : World} {F : List Res} {a : Option Addr} {c : Nat} {rl : List (Int × Int)} {base : Int} (n : Int) (hb : 0 ≤ base ∧ base ≤ 65535) (h : Sl σ F encP8 2 (.slice a rl.length c) rl) (hr : ∀ r ∈ rl, (0 ≤ r.1 ∧ r.1 ≤ 255) ∧ 0 ≤ r.2 ∧ r.2 ≤ 255) (hn : -9223372036854775808 ≤ n ∧ n ≤ 9223372036854775807) :
    FnT Try.prog σ F 5 [.agg #[.int .u16 base, .slice a rl.length c], .int .i64 n] [] (fun u ρ => u = .bool true ∧ ρ = []) := by
  refine fn_of 106 Try.func5 rfl Try.ntmps5 rfl ?_
  obtain ⟨hro1, hro2, hro3⟩ := rowsOf_ok hb.1 rl
  refine w_seq ?_
  refine w_region ?_
  refine wl_op [] rfl rfl rfl rfl (op_box (T := 43) (l := 2) rfl) ?_
  rintro _ _ ⟨b2, rfl, rfl⟩
  refine wl_det rfl rfl rfl (op_assign rfl) ?_
  refine wl_nil ?_
  refine st_tn ?_
  refine w_seq ?_
  refine w_seq ?_
  refine w_region ?_
  refine wl_det rfl rfl rfl (op_fn Try.func13 rfl rfl rfl (known_any)) ?_
  refine wl_det rfl rfl rfl (op_not_t rfl) ?_
  refine wl_nil ?_
  refine st_tn ?_
  refine w_cond_f (rfl) ?_
  refine w_skip ?_
  refine st_tn ?_
  refine w_seq ?_
  refine w_draw (D := [⟨14, [], [], [], _, false, [], []⟩, ⟨15, [0], [], [], _, false, [], []⟩, ⟨16, [], [], [], _, false, [], []⟩, ⟨17, [2], [], [], _, false, [], []⟩, ⟨5, [], [], [], _, false, [], []⟩]) [] [2] [⟨14, [], [], false, [], []⟩, ⟨15, [0], [], false, [], []⟩, ⟨16, [], [], false, [], []⟩, ⟨17, [2], [], false, [], []⟩, ⟨5, [], [], false, [], []⟩] tMixv (by rfl) (by kernel_rfl) (by rfl) (by rfl)
      ⟨.plain rfl (by intro X; exact op_loadA rfl tA43v (Ent.lab (l := 2) rfl (says_cel 0)) (Nat.le_of_ble_eq_true rfl)),
      ⟨.plain rfl (by intro X; rintro _ _ ⟨rfl, rfl⟩; exact op_fn Try.func22 rfl rfl rfl (made_any 15 (by assumption) (by first | exact Sl.app (by assumption) _ | exact Sl.app (Sl.app (by assumption) _) _) (by assumption))),
      ⟨.plain rfl (by intro X; exact op_loadA rfl tA43v (Ent.lab (l := 2) rfl (says_cel 0)) (Nat.le_of_ble_eq_true rfl)),
      ⟨.plain rfl (by intro X; rintro _ _ ⟨rfl, rfl⟩; exact op_fn Try.func23 rfl rfl rfl (lrows_any 17 (by assumption) (by first | exact Sl.app (by assumption) _ | exact Sl.app (Sl.app (by assumption) _) _) (by assumption))),
      ⟨.plain rfl (by intro X; exact op_alloc (l := 5) tN26v),
      trivial⟩⟩⟩⟩⟩ ?_
  rintro _ _ ⟨rfl, rfl⟩ _ _ ⟨m15, a15, c15, hw15, hi15, hm15, rfl, rfl⟩ _ _ ⟨rfl, rfl⟩ _ _ ⟨a17, c17, rfl, rfl⟩ _ _ ⟨b5, rfl, rfl⟩
  have hl15 := wf_len hw15 hi15
  refine wl_norm (e' := [(1, _), (5, _), (15, _), (17, _)]) (.cons rfl (.cons rfl (.cons rfl (.cons rfl (.nil _))))) (by dsimp only [cond_false, cond_true, List.nil_append, List.cons_append]) ?_
  refine wl_op0 [5] rfl rfl rfl (op_store rfl rfl tZ26v (by rfl) (by rfl) (by exact Nat.le_of_ble_eq_true rfl)) ?_
  rintro _ _ ⟨rfl, rfl⟩
  refine wl_det rfl rfl rfl (op_assign rfl) ?_
  refine wl_nil ?_
  refine st_tn ?_
  refine w_seq ?_
  rw [hm15] at hl15
  have hni := nth_isSome (rowsOf base rl) n
  refine w_region ?_
  refine wl_det rfl rfl rfl (op_loadA rfl tA26v (Ent.lab (l := 5) rfl (says_cel 0)) (Nat.le_of_ble_eq_true rfl)) ?_
  refine wl_det rfl rfl rfl (op_move rfl) ?_
  refine wl_det rfl rfl rfl (op_fn Try.func24 rfl rfl rfl (select_s _ (Sl.lab 15 rfl (by unfold maxLen; omega)) (by assumption) (by assumption) (by omega))) ?_
  refine wl_det rfl rfl rfl (op_move rfl) ?_
  refine wl_det rfl rfl rfl (op_extract rfl rfl) ?_
  refine wl_det rfl rfl rfl (op_extract rfl rfl) ?_
  refine wl_det rfl rfl rfl (op_assign rfl) ?_
  refine wl_det rfl rfl rfl (op_assign rfl) ?_
  refine wl_nil ?_
  refine st_tn ?_
  refine w_seq ?_
  refine w_seq ?_
  refine w_cutL [(70, .bool false)] [5, 6] [2, 15, 17, 5] rfl (fun K' hK => ?_) ?_
  · -- cut r5
    refine w_region ?_
    refine wl_det rfl rfl rfl (op_loadA rfl tA26v (Ent.lab (l := 5) rfl (says_cel 0)) (Nat.le_of_ble_eq_true rfl)) ?_
    refine wl_det rfl rfl rfl (op_move rfl) ?_
    refine wl_det rfl rfl rfl (op_fn Try.func25 rfl rfl rfl (contains_s _ (Sl.lab 15 rfl (by unfold maxLen; omega)))) ?_
    refine wl_det rfl rfl rfl (op_move rfl) ?_
    refine wl_det rfl rfl rfl (op_move rfl) ?_
    refine wl_det rfl rfl rfl (op_fn Try.func26 rfl rfl rfl (has_any _ (Sl.lab 17 rfl (by unfold maxLen; omega)))) ?_
    refine wl_det rfl rfl rfl (op_val (v' := .bool false) (by rw [hm15]; simp) (op_neB rfl rfl Try.underlying4)) ?_
    refine wl_det rfl rfl rfl (op_move rfl) ?_
    refine wl_wanted_det rfl rfl rfl rfl rfl rfl rfl (op_loadA rfl tA26v (Ent.lab (l := 5) rfl (says_cel 0)) (Nat.le_of_ble_eq_true rfl)) ?_
    refine wl_wanted_det rfl rfl rfl rfl rfl rfl rfl (op_move rfl) ?_
    refine wl_wanted_det rfl rfl rfl rfl rfl rfl rfl (op_fn Try.func27 rfl rfl rfl (rank_s _ (Sl.lab 15 rfl (by unfold maxLen; omega)) (by assumption) (by assumption) (by omega))) ?_
    refine wl_wanted_det rfl rfl rfl rfl rfl rfl rfl (op_move rfl) ?_
    refine wl_wanted_det rfl rfl rfl rfl rfl rfl rfl (op_move rfl) ?_
    refine wl_wanted_det rfl rfl rfl rfl rfl rfl rfl (op_fn Try.func28 rfl rfl rfl (rrank_any _ (Sl.lab 17 rfl (by unfold maxLen; omega)))) ?_
    refine wl_wanted_det rfl rfl rfl rfl rfl rfl rfl (op_val (v' := .bool false) (by rw [hm15]; simp) (op_neq rfl rfl)) ?_
    refine wl_det rfl rfl rfl (op_pick_f rfl rfl) ?_
    refine wl_det rfl rfl rfl (op_move rfl) ?_
    refine wl_wanted_det rfl rfl rfl rfl rfl rfl rfl (op_move rfl) ?_
    refine wl_wanted_det rfl rfl rfl rfl rfl rfl rfl (op_move rfl) ?_
    refine wl_wanted_det rfl rfl rfl rfl rfl rfl rfl (op_geq rfl rfl) ?_
    refine wl_wanted_det rfl rfl rfl rfl rfl rfl rfl (op_move rfl) ?_
    refine wl_gsplit (t := 44) rfl (fun hg44 => ?_) (fun hg44 => ?_)
    · -- 44 is True
      have hge : n ≥ 0 := hg44
      refine wl_wanted_det rfl rfl rfl rfl rfl rfl rfl (op_move rfl) ?_
      refine wl_wanted_det rfl rfl rfl rfl rfl rfl rfl (op_move rfl) ?_
      refine wl_wanted_det rfl rfl rfl rfl rfl rfl rfl (op_lenT rfl tS22v (Sl.ent (Sl.lab 17 rfl (by unfold maxLen; omega)))) ?_
      refine wl_wanted_det rfl rfl rfl rfl rfl rfl rfl (op_lss rfl rfl) ?_
      refine wl_wanted_det rfl rfl rfl rfl rfl rfl rfl (op_pick_t rfl rfl) ?_
      refine wl_wanted_det rfl rfl rfl rfl rfl rfl rfl (op_val (v' := .bool false) (by rw [hm15, hni]; simp; first | omega | (rw [decide_eq_false_iff_not]; omega)) (op_neB rfl rfl Try.underlying4)) ?_
      refine wl_det rfl rfl rfl (op_pick_f rfl rfl) ?_
      refine wl_det rfl rfl rfl (op_move rfl) ?_
      refine wl_wanted_det rfl rfl rfl rfl rfl rfl rfl (op_move rfl) ?_
      refine wl_wanted_det rfl rfl rfl rfl rfl rfl rfl (op_move rfl) ?_
      refine wl_gsplitB (t := 54) rfl (fun hg54 => ?_) (fun hg54 => ?_)
      · -- 54 is True
        rw [hm15, hni, decide_eq_true_iff] at hg54
        obtain ⟨x, hx⟩ := getE (l := rowsOf base rl) (i := n.toNat) (by omega)
        have hnx : nth (rowsOf base rl) n = some x := by unfold nth; rw [if_neg (by omega)]; exact hx
        refine wl_wanted_det rfl rfl rfl rfl rfl rfl rfl (op_move rfl) ?_
        refine wl_wanted_det rfl rfl rfl rfl rfl rfl rfl (op_move rfl) ?_
        refine wl_wanted_det rfl rfl rfl rfl rfl rfl rfl (op_move rfl) ?_
        refine wl_wanted_det rfl rfl rfl rfl rfl rfl rfl (op_idxZ rfl rfl tS22v (Sl.ent (Sl.lab 17 rfl (by unfold maxLen; omega))) (by omega) (by omega)) ?_
        refine wl_wanted_det rfl rfl rfl rfl rfl rfl rfl (op_ldx rfl tO3v (Sl.lab 17 rfl (by unfold maxLen; omega)) (by assumption) (by rfl)) ?_
        refine wl_wanted_det rfl rfl rfl rfl rfl rfl rfl (op_val (v' := .bool false) (by rw [hm15, hnx]; simp) (op_neq rfl rfl)) ?_
        refine wl_wanted_det rfl rfl rfl rfl rfl rfl rfl (op_pick_t rfl rfl) ?_
        refine wl_det rfl rfl rfl (op_pick_f rfl rfl) ?_
        refine wl_det rfl rfl rfl (op_move rfl) ?_
        refine wl_wanted_det rfl rfl rfl rfl rfl rfl rfl (op_move rfl) ?_
        refine wl_wanted_det rfl rfl rfl rfl rfl rfl rfl (op_val (v' := .bool false) (by rw [hm15, hni, decide_eq_true hg54]; rfl) (op_not rfl)) ?_
        refine wl_wanted_det rfl rfl rfl rfl rfl rfl rfl (op_move rfl) ?_
        refine wl_unwanted rfl rfl rfl rfl rfl rfl rfl rfl ?_
        refine wl_unwanted rfl rfl rfl rfl rfl rfl rfl rfl ?_
        refine wl_wanted_det rfl rfl rfl rfl rfl rfl rfl (op_pick_f rfl rfl) ?_
        refine wl_det rfl rfl rfl (op_pick_f rfl rfl) ?_
        refine wl_nil ?_
        refine st_tn ?_
        exact cut_done (L' := [2, 15, 17, 5]) hK (by intro q hq; simp only [List.mem_cons, List.not_mem_nil, or_false] at hq; subst hq; all_goals first | rfl | (show some _ = some _; simp [*]; done)) (by rfl) rfl rfl
      · -- 54 is False
        have hnx : nth (rowsOf base rl) n = none := by rw [hm15] at hg54; cases hq : nth (rowsOf base rl) n with | none => rfl | some x => rw [hq] at hg54; simp at hg54
        refine wl_unwanted rfl rfl rfl rfl rfl rfl rfl rfl ?_
        refine wl_unwanted rfl rfl rfl rfl rfl rfl rfl rfl ?_
        refine wl_unwanted rfl rfl rfl rfl rfl rfl rfl rfl ?_
        refine wl_unwanted rfl rfl rfl rfl rfl rfl rfl rfl ?_
        refine wl_unwanted rfl rfl rfl rfl rfl rfl rfl rfl ?_
        refine wl_unwanted rfl rfl rfl rfl rfl rfl rfl rfl ?_
        refine wl_wanted_det rfl rfl rfl rfl rfl rfl rfl (op_pick_f rfl rfl) ?_
        refine wl_det rfl rfl rfl (op_pick_f rfl rfl) ?_
        refine wl_det rfl rfl rfl (op_move rfl) ?_
        refine wl_wanted_det rfl rfl rfl rfl rfl rfl rfl (op_move rfl) ?_
        refine wl_wanted_det rfl rfl rfl rfl rfl rfl rfl (op_val (v' := .bool true) (by rw [hm15, hnx]; rfl) (op_not rfl)) ?_
        refine wl_wanted_det rfl rfl rfl rfl rfl rfl rfl (op_move rfl) ?_
        refine wl_wanted_det rfl rfl rfl rfl rfl rfl rfl (op_move rfl) ?_
        refine wl_wanted_det rfl rfl rfl rfl rfl rfl rfl (op_val (v' := .bool false) (by rw [hm15, hnx]; rfl) (op_neq rfl rfl)) ?_
        refine wl_wanted_det rfl rfl rfl rfl rfl rfl rfl (op_pick_t rfl rfl) ?_
        refine wl_det rfl rfl rfl (op_pick_f rfl rfl) ?_
        refine wl_nil ?_
        refine st_tn ?_
        exact cut_done (L' := [2, 15, 17, 5]) hK (by intro q hq; simp only [List.mem_cons, List.not_mem_nil, or_false] at hq; subst hq; all_goals first | rfl | (show some _ = some _; simp [*]; done)) (by rfl) rfl rfl
    · -- 44 is False
      have hlt : ¬ n ≥ 0 := hg44
      refine wl_unwanted rfl rfl rfl rfl rfl rfl rfl rfl ?_
      refine wl_unwanted rfl rfl rfl rfl rfl rfl rfl rfl ?_
      refine wl_unwanted rfl rfl rfl rfl rfl rfl rfl rfl ?_
      refine wl_unwanted rfl rfl rfl rfl rfl rfl rfl rfl ?_
      refine wl_wanted_det rfl rfl rfl rfl rfl rfl rfl (op_pick_f rfl rfl) ?_
      refine wl_wanted_det rfl rfl rfl rfl rfl rfl rfl (op_val (v' := .bool false) (by rw [hm15, hni]; simp; first | omega | (rw [decide_eq_false_iff_not]; omega)) (op_neB rfl rfl Try.underlying4)) ?_
      refine wl_det rfl rfl rfl (op_pick_f rfl rfl) ?_
      refine wl_det rfl rfl rfl (op_move rfl) ?_
      refine wl_wanted_det rfl rfl rfl rfl rfl rfl rfl (op_move rfl) ?_
      refine wl_wanted_det rfl rfl rfl rfl rfl rfl rfl (op_move rfl) ?_
      refine wl_gsplitB (t := 54) rfl (fun hg54 => ?_) (fun hg54 => ?_)
      · -- 54 is True
        rw [hm15, hni, decide_eq_true_iff] at hg54
        obtain ⟨x, hx⟩ := getE (l := rowsOf base rl) (i := n.toNat) (by omega)
        have hnx : nth (rowsOf base rl) n = some x := by unfold nth; rw [if_neg (by omega)]; exact hx
        refine wl_wanted_det rfl rfl rfl rfl rfl rfl rfl (op_move rfl) ?_
        refine wl_wanted_det rfl rfl rfl rfl rfl rfl rfl (op_move rfl) ?_
        refine wl_wanted_det rfl rfl rfl rfl rfl rfl rfl (op_move rfl) ?_
        refine wl_wanted_det rfl rfl rfl rfl rfl rfl rfl (op_idxZ rfl rfl tS22v (Sl.ent (Sl.lab 17 rfl (by unfold maxLen; omega))) (by omega) (by omega)) ?_
        refine wl_wanted_det rfl rfl rfl rfl rfl rfl rfl (op_ldx rfl tO3v (Sl.lab 17 rfl (by unfold maxLen; omega)) (by assumption) (by rfl)) ?_
        refine wl_wanted_det rfl rfl rfl rfl rfl rfl rfl (op_val (v' := .bool false) (by rw [hm15, hnx]; simp) (op_neq rfl rfl)) ?_
        refine wl_wanted_det rfl rfl rfl rfl rfl rfl rfl (op_pick_t rfl rfl) ?_
        refine wl_det rfl rfl rfl (op_pick_f rfl rfl) ?_
        refine wl_det rfl rfl rfl (op_move rfl) ?_
        refine wl_wanted_det rfl rfl rfl rfl rfl rfl rfl (op_move rfl) ?_
        refine wl_wanted_det rfl rfl rfl rfl rfl rfl rfl (op_val (v' := .bool false) (by rw [hm15, hni, decide_eq_true hg54]; rfl) (op_not rfl)) ?_
        refine wl_wanted_det rfl rfl rfl rfl rfl rfl rfl (op_move rfl) ?_
        refine wl_unwanted rfl rfl rfl rfl rfl rfl rfl rfl ?_
        refine wl_unwanted rfl rfl rfl rfl rfl rfl rfl rfl ?_
        refine wl_wanted_det rfl rfl rfl rfl rfl rfl rfl (op_pick_f rfl rfl) ?_
        refine wl_det rfl rfl rfl (op_pick_f rfl rfl) ?_
        refine wl_nil ?_
        refine st_tn ?_
        exact cut_done (L' := [2, 15, 17, 5]) hK (by intro q hq; simp only [List.mem_cons, List.not_mem_nil, or_false] at hq; subst hq; all_goals first | rfl | (show some _ = some _; simp [*]; done)) (by rfl) rfl rfl
      · -- 54 is False
        have hnx : nth (rowsOf base rl) n = none := by rw [hm15] at hg54; cases hq : nth (rowsOf base rl) n with | none => rfl | some x => rw [hq] at hg54; simp at hg54
        refine wl_unwanted rfl rfl rfl rfl rfl rfl rfl rfl ?_
        refine wl_unwanted rfl rfl rfl rfl rfl rfl rfl rfl ?_
        refine wl_unwanted rfl rfl rfl rfl rfl rfl rfl rfl ?_
        refine wl_unwanted rfl rfl rfl rfl rfl rfl rfl rfl ?_
        refine wl_unwanted rfl rfl rfl rfl rfl rfl rfl rfl ?_
        refine wl_unwanted rfl rfl rfl rfl rfl rfl rfl rfl ?_
        refine wl_wanted_det rfl rfl rfl rfl rfl rfl rfl (op_pick_f rfl rfl) ?_
        refine wl_det rfl rfl rfl (op_pick_f rfl rfl) ?_
        refine wl_det rfl rfl rfl (op_move rfl) ?_
        refine wl_wanted_det rfl rfl rfl rfl rfl rfl rfl (op_move rfl) ?_
        refine wl_wanted_det rfl rfl rfl rfl rfl rfl rfl (op_val (v' := .bool true) (by rw [hm15, hnx]; rfl) (op_not rfl)) ?_
        refine wl_wanted_det rfl rfl rfl rfl rfl rfl rfl (op_move rfl) ?_
        refine wl_wanted_det rfl rfl rfl rfl rfl rfl rfl (op_move rfl) ?_
        refine wl_wanted_det rfl rfl rfl rfl rfl rfl rfl (op_val (v' := .bool false) (by rw [hm15, hnx]; rfl) (op_neq rfl rfl)) ?_
        refine wl_wanted_det rfl rfl rfl rfl rfl rfl rfl (op_pick_t rfl rfl) ?_
        refine wl_det rfl rfl rfl (op_pick_f rfl rfl) ?_
        refine wl_nil ?_
        refine st_tn ?_
        exact cut_done (L' := [2, 15, 17, 5]) hK (by intro q hq; simp only [List.mem_cons, List.not_mem_nil, or_false] at hq; subst hq; all_goals first | rfl | (show some _ = some _; simp [*]; done)) (by rfl) rfl rfl
  · -- behind r5
    show W _ _ _ _ _ [(70, _), (5, _), (6, _)] [(2, _), (15, _), (17, _), (5, _)] _
    refine w_cond_f (rfl) ?_
    refine w_skip ?_
    refine st_tn ?_
    refine w_seq ?_
    refine w_seq ?_
    refine w_region ?_
    refine wl_det rfl rfl rfl (op_assign rfl) ?_
    refine wl_nil ?_
    refine st_tn ?_
    refine w_block ?_
    refine w_loopQ (X := Nat) (fun z => z ≤ (rowsOf base rl).length) (fun z => [(9, .int .i64 (z))]) (fun _ => []) (fun z => (rowsOf base rl).length - z) (0) [(5, _), (6, _)] [(2, _), (15, _), (17, _), (5, _)] [2, 15, 17, 5] rfl (rfl) (.cons rfl (.nil _)) (.cons rfl (.cons rfl (.nil _))) (by
        try dsimp only
        (repeat' apply And.intro) <;> first | omega | assumption | (simp; done) | (simp; omega) | (simp [*]; done) | (simp [*]; omega)) ?_
    rintro k hinv
    refine w_norm2 (by dsimp only [List.cons_append, List.nil_append]) (by dsimp only [List.cons_append, List.nil_append]) ?_
    try dsimp only at hinv ⊢
    refine w_seq ?_
    refine w_seq ?_
    refine w_region ?_
    refine wl_det rfl rfl rfl (op_move rfl) ?_
    refine wl_det rfl rfl rfl (op_move rfl) ?_
    refine wl_det rfl rfl rfl (op_lenT rfl tS22v (Sl.ent (Sl.lab 17 rfl (by unfold maxLen; omega)))) ?_
    refine wl_det rfl rfl rfl (op_lss rfl rfl) ?_
    refine wl_nil ?_
    refine st_tn ?_
    refine w_cond_d rfl (fun hc74 => ?_) (fun hc74 => ?_)
    · -- c74.t
      obtain ⟨x, hx⟩ := getE (l := rowsOf base rl) (i := k) (by omega)
      have hlt := ltE hx
      have hxb := hro2 x (List.mem_of_getElem? hx)
      have hnx : nth (rows m15) k = some x := by rw [hm15]; exact nth_nat hx
      refine w_skip ?_
      refine st_tn ?_
      refine w_seq ?_
      refine w_block ?_
      refine w_seq ?_
      refine w_region ?_
      refine wl_det rfl rfl rfl (op_loadA rfl tA26v (Ent.lab (l := 5) rfl (says_cel 0)) (Nat.le_of_ble_eq_true rfl)) ?_
      refine wl_det rfl rfl rfl (op_move rfl) ?_
      refine wl_det rfl rfl rfl (op_fn Try.func24 rfl rfl rfl (select_s _ (Sl.lab 15 rfl (by unfold maxLen; omega)) (by assumption) (by assumption) (by omega))) ?_
      refine wl_det rfl rfl rfl (op_move rfl) ?_
      refine wl_det rfl rfl rfl (op_val (v' := .int .i64 x) (by rw [hnx]; rfl) (op_extract rfl rfl)) ?_
      refine wl_det rfl rfl rfl (op_val (v' := .bool true) (by rw [hnx]; rfl) (op_extract rfl rfl)) ?_
      refine wl_det rfl rfl rfl (op_assign rfl) ?_
      refine wl_det rfl rfl rfl (op_assign rfl) ?_
      refine wl_nil ?_
      refine st_tn ?_
      refine w_seq ?_
      refine w_region ?_
      refine wl_det rfl rfl rfl (op_move rfl) ?_
      refine wl_det rfl rfl rfl (op_not_t rfl) ?_
      refine wl_det rfl rfl rfl (op_move rfl) ?_
      refine wl_wanted_det rfl rfl rfl rfl rfl rfl rfl (op_move rfl) ?_
      refine wl_wanted_det rfl rfl rfl rfl rfl rfl rfl (op_move rfl) ?_
      refine wl_wanted_det rfl rfl rfl rfl rfl rfl rfl (op_move rfl) ?_
      refine wl_wanted_det rfl rfl rfl rfl rfl rfl rfl (op_idx rfl rfl tS22v (Sl.ent (Sl.lab 17 rfl (by unfold maxLen; omega))) (by omega)) ?_
      refine wl_wanted_det rfl rfl rfl rfl rfl rfl rfl (op_ldx rfl tO3v (Sl.lab 17 rfl (by unfold maxLen; omega)) (by assumption) (by rfl)) ?_
      refine wl_wanted_det rfl rfl rfl rfl rfl rfl rfl (op_val (v' := .bool false) (by simp) (op_neq rfl rfl)) ?_
      refine wl_det rfl rfl rfl (op_pick_f rfl rfl) ?_
      refine wl_det rfl rfl rfl (op_move rfl) ?_
      refine wl_wanted_det rfl rfl rfl rfl rfl rfl rfl (op_loadA rfl tA26v (Ent.lab (l := 5) rfl (says_cel 0)) (Nat.le_of_ble_eq_true rfl)) ?_
      refine wl_wanted_det rfl rfl rfl rfl rfl rfl rfl (op_move rfl) ?_
      refine wl_wanted_det rfl rfl rfl rfl rfl rfl rfl (op_fn Try.func27 rfl rfl rfl (rank_s _ (Sl.lab 15 rfl (by unfold maxLen; omega)) (by assumption) (by assumption) (by omega))) ?_
      refine wl_wanted_det rfl rfl rfl rfl rfl rfl rfl (op_move rfl) ?_
      refine wl_wanted_det rfl rfl rfl rfl rfl rfl rfl (op_val (v' := .bool false) (by rw [hm15, filter_lt_nth hro1 hx]; simp) (op_neq rfl rfl)) ?_
      refine wl_det rfl rfl rfl (op_pick_f rfl rfl) ?_
      refine wl_det rfl rfl rfl (op_move rfl) ?_
      refine wl_wanted_det rfl rfl rfl rfl rfl rfl rfl (op_loadA rfl tA26v (Ent.lab (l := 5) rfl (says_cel 0)) (Nat.le_of_ble_eq_true rfl)) ?_
      refine wl_wanted_det rfl rfl rfl rfl rfl rfl rfl (op_move rfl) ?_
      refine wl_wanted_det rfl rfl rfl rfl rfl rfl rfl (op_val (v' := .bool true) (by rw [decide_eq_true (by rw [hm15]; exact List.mem_of_getElem? hx)]) (op_fn Try.func25 rfl rfl rfl (contains_s _ (Sl.lab 15 rfl (by unfold maxLen; omega))))) ?_
      refine wl_wanted_det rfl rfl rfl rfl rfl rfl rfl (op_not_t rfl) ?_
      refine wl_det rfl rfl rfl (op_pick_f rfl rfl) ?_
      refine wl_nil ?_
      refine st_tn ?_
      refine w_cond_f (rfl) ?_
      refine w_skip ?_
      refine st_bn ?_
      refine st_tn ?_
      refine w_region ?_
      refine wl_det rfl rfl rfl (op_move rfl) ?_
      refine wl_det rfl rfl rfl (op_add' rfl rfl (by omega)) ?_
      refine wl_det rfl rfl rfl (op_assign rfl) ?_
      refine wl_nil ?_
      refine st_roundQ (x := k) (k + 1) [2, 15, 17, 5] rfl (rfl) (.cons rfl (.nil _)) (.cons rfl (.cons rfl (.nil _))) (by
          try dsimp only
          (repeat' apply And.intro) <;> first | omega | assumption | (simp; done) | (simp; omega) | (simp [*]; done) | (simp [*]; omega)) (by
          try dsimp only
          omega) 
    · -- c74.f
      refine w_exit ?_
      refine st_te ?_
      refine st_te ?_
      refine st_be ?_
      refine st_tn ?_
      refine w_seq ?_
      refine w_region ?_
      refine wl_det rfl rfl rfl (op_assign rfl) ?_
      refine wl_nil ?_
      refine st_tn ?_
      refine w_ret ?_
      refine st_ret (vs := [_]) [] Try.results5 ⟨rfl, trivial⟩ rfl ?_
      refine ⟨_, rfl, ?_⟩
      exact ⟨rfl, rfl⟩

set_option maxRecDepth 100000 in
theorem open_set {H : Type} {enc : TypeId × Value → H} {W : World} {v : Value} {d : DataW H} {p : List MemPlace} (hval : Value.okWide Try.prog W .any 0 43 v) (h : DataW.Trod enc Try.prog W 0 (fun _ => true) true 43 v d p) :
    ∃ base a c rl, v = .agg #[.int .u16 base, .slice a rl.length c] ∧ (0 ≤ base ∧ base ≤ 65535) ∧ Sl W [whole W] encP8 2 (.slice a rl.length c) rl ∧ ∀ r ∈ rl, (0 ≤ r.1 ∧ r.1 ≤ 255) ∧ 0 ≤ r.2 ∧ r.2 ≤ 255 := by
  obtain ⟨cs, rfl⟩ := okWide_agg (ss := [.int .u16, .slice 2 (.row [.int .u8, .int .u8])]) (by kernel_rfl) hval
  obtain ⟨d, hd, hc, hdeep⟩ := open_Trod (s := .row [.int .u16, .slice 2 (.row [.int .u8, .int .u8])]) (by kernel_rfl) h
  obtain ⟨ds, rfl, hds⟩ := has_row hd
  obtain ⟨d0, r0, rfl, h0, hds⟩ := has_cons hds
  obtain ⟨d1, r1, rfl, h1, hds⟩ := has_cons hds
  obtain rfl := has_nil hds
  obtain ⟨base, rfl, hb⟩ := has_int h0
  obtain ⟨a, c, l, rfl, hl⟩ := has_slice h1
  obtain ⟨l, rfl, hl'⟩ := of_all (fun p : Int × Int => D.row [.z .u8 p.1, .z .u8 p.2]) (fun p => (0 ≤ p.1 ∧ p.1 ≤ 255) ∧ 0 ≤ p.2 ∧ p.2 ≤ 255) l (fun d hd => by
    obtain ⟨ds, rfl, hds⟩ := has_row (hl d hd)
    obtain ⟨d0, r0, rfl, h0, hds⟩ := has_cons hds
    obtain ⟨d1, r1, rfl, h1, hds⟩ := has_cons hds
    obtain rfl := has_nil hds
    obtain ⟨x, rfl, hx⟩ := has_int h0
    obtain ⟨y, rfl, hy⟩ := has_int h1
    exact ⟨(x, y), rfl, wf_u8 hx, wf_u8 hy⟩)
  refine ⟨base, a, c, l, ?_, wf_u16 hb, Sl.conv (deep_sl hdeep.2.1) (fun _ => rfl), hl'⟩
  congr 1
  apply Array.ext'
  simp only [Value.cells] at hc
  rw [hc]
  simp [encD, encDs]
end Go.Proofs.Ytkknlfhncheflaa
