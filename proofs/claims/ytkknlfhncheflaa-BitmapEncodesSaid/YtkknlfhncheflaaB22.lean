/- The laws BitmapAdds and BitmapLaws (layer 5). Conditions: none. -/
import Derived.Test.YtkknlfhncheflaaB21
namespace Go.Proofs.Ytkknlfhncheflaa
open Go Go.SL Go.RowKit Go.BitM
set_option linter.unusedVariables false
set_option linter.unusedSimpArgs false
theorem tA26w : aggB Try.prog 26 1 = true := by kernel_rfl
theorem tA43w : aggB Try.prog 43 2 = true := by kernel_rfl
theorem tL22_1w : zerosB Try.prog 22 3 1 1 = some [Value.int .i64 0] := by kernel_rfl
theorem tMixw : Try.prog.follows .mixedOrders = true := by kernel_rfl
theorem tN26w : (Try.prog.info? 26).bind (·.zero) = some (Value.agg #[Value.slice none 0 0]) := by kernel_rfl
theorem tP22w : appB Try.prog 22 3 1 8 = true := by kernel_rfl
theorem tZ26w : (Try.prog.info? 26).map (·.size) = some 1 := by kernel_rfl

-- CALL sleuth/bitmap.Encode encode_any {s0} (by assumption) (by assumption)
set_option maxHeartbeats 2000000 in
set_option maxRecDepth 100000 in
theorem lawAdds_any {σ : World} {F : List Res} {a : Option Addr} {c : Nat} {rl : List (Int × Int)} {base : Int} (n : Int) (hb : 0 ≤ base ∧ base ≤ 65535) (h : Sl σ F encP8 2 (.slice a rl.length c) rl) (hr : ∀ r ∈ rl, (0 ≤ r.1 ∧ r.1 ≤ 255) ∧ 0 ≤ r.2 ∧ r.2 ≤ 255) (hn : -9223372036854775808 ≤ n ∧ n ≤ 9223372036854775807) :
    FnT Try.prog σ F 6 [.agg #[.int .u16 base, .slice a rl.length c], .int .i64 n] [] (fun u ρ => u = .bool true ∧ ρ = []) := by
  refine fn_of 48 Try.func6 rfl Try.ntmps6 rfl ?_
  obtain ⟨hro1, hro2, hro3⟩ := rowsOf_ok hb.1 rl
  refine w_seq ?_
  refine w_region ?_
  refine wl_op [] rfl rfl rfl rfl (op_box (T := 43) (l := 2) rfl) ?_
  rintro _ _ ⟨b2, rfl, rfl⟩
  refine wl_det rfl rfl rfl (op_assign rfl) ?_
  refine wl_nil ?_
  refine st_tn ?_
  refine w_seq ?_
  refine w_seq ?_
  refine w_region ?_
  refine wl_det rfl rfl rfl (op_fn Try.func13 rfl rfl rfl (known_any)) ?_
  refine wl_det rfl rfl rfl (op_not_t rfl) ?_
  refine wl_nil ?_
  refine st_tn ?_
  refine w_cond_f (rfl) ?_
  refine w_skip ?_
  refine st_tn ?_
  refine w_seq ?_
  refine w_draw (D := [⟨11, [], [], [], _, false, [], []⟩, ⟨12, [0], [], [], _, false, [], []⟩, ⟨13, [], [], [], _, false, [], []⟩, ⟨14, [2], [], [], _, false, [], []⟩, ⟨5, [], [], [], _, false, [], []⟩]) [] [2] [⟨11, [], [], false, [], []⟩, ⟨12, [0], [], false, [], []⟩, ⟨13, [], [], false, [], []⟩, ⟨14, [2], [], false, [], []⟩, ⟨5, [], [], false, [], []⟩] tMixw (by rfl) (by kernel_rfl) (by rfl) (by rfl)
      ⟨.plain rfl (by intro X; exact op_loadA rfl tA43w (Ent.lab (l := 2) rfl (says_cel 0)) (Nat.le_of_ble_eq_true rfl)),
      ⟨.plain rfl (by intro X; rintro _ _ ⟨rfl, rfl⟩; exact op_fn Try.func22 rfl rfl rfl (made_any 12 (by assumption) (by first | exact Sl.app (by assumption) _ | exact Sl.app (Sl.app (by assumption) _) _) (by assumption))),
      ⟨.plain rfl (by intro X; exact op_loadA rfl tA43w (Ent.lab (l := 2) rfl (says_cel 0)) (Nat.le_of_ble_eq_true rfl)),
      ⟨.plain rfl (by intro X; rintro _ _ ⟨rfl, rfl⟩; exact op_fn Try.func23 rfl rfl rfl (lrows_any 14 (by assumption) (by first | exact Sl.app (by assumption) _ | exact Sl.app (Sl.app (by assumption) _) _) (by assumption))),
      ⟨.plain rfl (by intro X; exact op_alloc (l := 5) tN26w),
      trivial⟩⟩⟩⟩⟩ ?_
  rintro _ _ ⟨rfl, rfl⟩ _ _ ⟨m12, a12, c12, hw12, hi12, hm12, rfl, rfl⟩ _ _ ⟨rfl, rfl⟩ _ _ ⟨a14, c14, rfl, rfl⟩ _ _ ⟨b5, rfl, rfl⟩
  have hl12 := wf_len hw12 hi12
  refine wl_norm (e' := [(1, _), (5, _), (12, _), (14, _)]) (.cons rfl (.cons rfl (.cons rfl (.cons rfl (.nil _))))) (by dsimp only [cond_false, cond_true, List.nil_append, List.cons_append]) ?_
  refine wl_op0 [5] rfl rfl rfl (op_store rfl rfl tZ26w (by rfl) (by rfl) (by exact Nat.le_of_ble_eq_true rfl)) ?_
  rintro _ _ ⟨rfl, rfl⟩
  refine wl_det rfl rfl rfl (op_assign rfl) ?_
  refine wl_nil ?_
  refine st_tn ?_
  refine w_seq ?_
  refine w_region ?_
  refine wl_det rfl rfl rfl (op_loadA rfl tA26w (Ent.lab (l := 5) rfl (says_cel 0)) (Nat.le_of_ble_eq_true rfl)) ?_
  refine wl_det rfl rfl rfl (op_move rfl) ?_
  refine wl_op [] rfl rfl rfl rfl (op_fn Try.func29 rfl rfl rfl (add_s 18 _ (Sl.lab 12 rfl (by unfold maxLen; omega)) (by assumption) (by assumption))) ?_
  rintro _ _ ⟨m18, a18, c18, hw18, hi18, hm18, rfl, rfl⟩
  have hl18 := wf_len hw18 hi18
  refine wl_det rfl rfl rfl (op_move rfl) ?_
  refine wl_det rfl rfl rfl (op_extract rfl rfl) ?_
  refine wl_det rfl rfl rfl (op_extract rfl rfl) ?_
  refine wl_op [] rfl rfl rfl rfl (op_alloc (l := 7) tN26w) ?_
  rintro _ _ ⟨b7, rfl, rfl⟩
  refine wl_op0 [7] rfl rfl rfl (op_store rfl rfl tZ26w (by rfl) (by rfl) (by exact Nat.le_of_ble_eq_true rfl)) ?_
  rintro _ _ ⟨rfl, rfl⟩
  refine wl_det rfl rfl rfl (op_assign rfl) ?_
  refine wl_nil ?_
  refine st_tn ?_
  refine w_seq ?_
  refine w_seq ?_
  refine w_region ?_
  refine wl_det rfl rfl rfl (op_loadA rfl tA26w (Ent.lab (l := 5) rfl (says_cel 0)) (Nat.le_of_ble_eq_true rfl)) ?_
  refine wl_det rfl rfl rfl (op_move rfl) ?_
  refine wl_det rfl rfl rfl (op_val (v' := .bool true) (by rw [decide_eq_true hm12]) (op_fn Try.func16 rfl rfl rfl (is_any (Sl.lab 12 rfl (by unfold maxLen; omega)) (Sl.lab 14 rfl (by unfold maxLen; omega)) (by assumption) (by assumption) (by omega)))) ?_
  refine wl_det rfl rfl rfl (op_not_t rfl) ?_
  refine wl_nil ?_
  refine st_tn ?_
  refine w_cond_f (rfl) ?_
  refine w_skip ?_
  refine st_tn ?_
  refine w_seq ?_
  refine w_seq ?_
  refine w_cutL [(30, .bool (decide (n < 0 ∨ n ≥ 1048576)))] [1, 6, 7, 8] [2, 12, 14, 5, 18, 7] rfl (fun K' hK => ?_) ?_
  · -- cut r7
    refine w_region ?_
    refine wl_det rfl rfl rfl (op_move rfl) ?_
    refine wl_det rfl rfl rfl (op_lss rfl rfl) ?_
    refine wl_det rfl rfl rfl (op_move rfl) ?_
    refine wl_gsplit (t := 27) rfl (fun hg27 => ?_) (fun hg27 => ?_)
    · -- 27 is True
      refine wl_unwanted rfl rfl rfl rfl rfl rfl rfl rfl ?_
      refine wl_unwanted rfl rfl rfl rfl rfl rfl rfl rfl ?_
      refine wl_det rfl rfl rfl (op_pick_t rfl rfl) ?_
      refine wl_nil ?_
      refine st_tn ?_
      exact cut_done1 [2, 12, 14, 5, 18, 7] hK rfl (by first | (rw [decide_eq_decide]; omega) | (symm; rw [decide_eq_false_iff_not]; omega) | (symm; rw [decide_eq_true_iff]; omega) | (simp; done) | (simp; omega) | (simp [*]; done) | (simp [*]; omega)) (by rfl) rfl rfl
    · -- 27 is False
      refine wl_wanted_det rfl rfl rfl rfl rfl rfl rfl (op_move rfl) ?_
      refine wl_wanted_det rfl rfl rfl rfl rfl rfl rfl (op_geq rfl rfl) ?_
      refine wl_det rfl rfl rfl (op_pick_f rfl rfl) ?_
      refine wl_nil ?_
      refine st_tn ?_
      exact cut_done1 [2, 12, 14, 5, 18, 7] hK rfl (by first | (rw [decide_eq_decide]; omega) | (symm; rw [decide_eq_false_iff_not]; omega) | (symm; rw [decide_eq_true_iff]; omega) | (simp; done) | (simp; omega) | (simp [*]; done) | (simp [*]; omega)) (by rfl) rfl rfl
  · -- behind r7
    show W _ _ _ _ _ [(30, _), (1, _), (6, _), (7, _), (8, _)] [(2, _), (12, _), (14, _), (5, _), (18, _), (7, _)] _
    refine w_cond_d rfl (fun hc30 => ?_) (fun hc30 => ?_)
    · -- c30.t
      have hno : ¬ (0 ≤ n ∧ n < 1048576) := by omega
      obtain rfl : m18 = [] := WF.unique hw18 WF.nil hm18 (fun x => ⟨fun h => absurd h (mem_nil x), fun h => absurd h.1 hno⟩)
      refine w_seq ?_
      refine w_region ?_
      refine wl_det rfl rfl rfl (op_move rfl) ?_
      refine wl_det rfl rfl rfl (op_val (v' := .bool true) (by rw [if_neg hno]; rfl) (op_eql rfl rfl)) ?_
      refine wl_det rfl rfl rfl (op_move rfl) ?_
      refine wl_wanted_det rfl rfl rfl rfl rfl rfl rfl (op_loadA rfl tA26w (Ent.lab (l := 7) rfl (says_cel 0)) (Nat.le_of_ble_eq_true rfl)) ?_
      refine wl_wanted_det rfl rfl rfl rfl rfl rfl rfl (op_val (v' := .bool true) (by rfl) (op_fn Try.func16 rfl rfl rfl (is_any (rl := []) (l := []) (Sl.lab 18 rfl (by simp [maxLen])) slnil hw18 hi18 (by simp)))) ?_
      refine wl_det rfl rfl rfl (op_pick_t rfl rfl) ?_
      refine wl_det rfl rfl rfl (op_assign rfl) ?_
      refine wl_nil ?_
      refine st_tn ?_
      refine w_ret ?_
      refine st_tr ?_
      refine st_ret (vs := [_]) [] Try.results6 ⟨rfl, trivial⟩ rfl ?_
      refine ⟨_, rfl, ?_⟩
      exact ⟨rfl, rfl⟩
    · -- c30.f
      have hok : 0 ≤ n ∧ n < 1048576 := by omega
      have hfin : rows m18 = srtU (rowsOf base rl ++ [n]) := (srtU_eq (ss_rows hw18) (fun x => by rw [mem_rows]; refine (hm18 x).trans ?_; show (_ ∧ (mem m12 x ∨ x = n)) ↔ _; rw [← mem_rows, hm12]; simp [hok])).symm
      have hsl := srtU_le (rowsOf base rl ++ [n])
      have hsl2 : (rowsOf base rl ++ [n]).length = (rowsOf base rl).length + 1 := by simp
      refine w_skip ?_
      refine st_tn ?_
      refine w_seq ?_
      refine w_draw (D := [⟨37, [], [], [], _, false, [], []⟩, ⟨38, [0], [], [], _, false, [], []⟩, ⟨39, [1], [], [], _, false, [], []⟩, ⟨40, [], [], [], _, false, [], []⟩, ⟨41, [], [], [], _, false, [], []⟩, ⟨42, [], [], [], _, false, [], []⟩, ⟨43, [5], [], [], _, false, [], []⟩, ⟨44, [4, 6], [], [(14, _)], _, false, [], []⟩, ⟨45, [7], [], [], _, false, [], []⟩, ⟨46, [3, 8], [], [], _, false, [], []⟩, ⟨47, [2, 9], [], [], _, false, [], []⟩]) [14] [8, 7, 6, 1] [⟨37, [], [], false, [], []⟩, ⟨38, [0], [], false, [], []⟩, ⟨39, [1], [], false, [], []⟩, ⟨40, [], [], false, [], []⟩, ⟨41, [], [], false, [], []⟩, ⟨42, [], [], false, [], []⟩, ⟨43, [5], [], false, [], []⟩, ⟨44, [4, 6], [], false, [], []⟩, ⟨45, [7], [], false, [], []⟩, ⟨46, [3, 8], [], false, [], []⟩, ⟨47, [2, 9], [], false, [], []⟩] tMixw (by rfl) (by kernel_rfl) (by rfl) (by rfl)
          ⟨.plain rfl (by intro X; exact op_move rfl),
          ⟨.plain rfl (by intro X; rintro _ _ ⟨rfl, rfl⟩; exact op_val (v' := .bool true) (by rw [if_pos hok]; rfl) (op_eql rfl rfl)),
          ⟨.plain rfl (by intro X; rintro _ _ ⟨rfl, rfl⟩; exact op_move rfl),
          ⟨.wanted rfl rfl rfl (by rintro _ _ ⟨rfl, rfl⟩; rfl) (by intro X; exact op_loadA rfl tA26w (Ent.lab (l := 7) rfl (says_cel 0)) (Nat.le_of_ble_eq_true rfl)),
          ⟨.wanted rfl rfl rfl (by rintro _ _ ⟨rfl, rfl⟩; rfl) (by intro X; exact op_move rfl),
          ⟨.wanted rfl rfl rfl (by rintro _ _ ⟨rfl, rfl⟩; rfl) (by intro X; exact op_move rfl),
          ⟨.wanted rfl rfl rfl (by rintro _ _ ⟨rfl, rfl⟩; rfl) (by intro X; rintro _ _ ⟨rfl, rfl⟩; exact op_buildSlice (enc := SL.encZ) (l := [_]) (lab := 43) tL22_1w rfl rfl (fun _ => rfl) rfl),
          ⟨.wanted rfl rfl rfl (by rintro _ _ ⟨rfl, rfl⟩; rfl) (by intro X; rintro _ _ ⟨rfl, rfl⟩ _ _ ⟨a43, c43, rfl, rfl⟩; exact op_append (lab := 14) (lab' := 44) rfl rfl tP22w SL.enc1Z (Sl.lab 43 rfl (by simp [maxLen])) (by simp; omega) (by simp; omega)),
          ⟨.wanted rfl rfl rfl (by rintro _ _ ⟨rfl, rfl⟩; rfl) (by intro X; rintro _ _ ⟨a44, c44, rfl, rfl⟩; exact op_fn Try.func17 rfl rfl rfl (sorted_any 45 (Sl.lab 44 rfl (by unfold maxLen; omega)) (by omega))),
          ⟨.wanted rfl rfl rfl (by rintro _ _ ⟨rfl, rfl⟩; rfl) (by intro X; rintro _ _ ⟨rfl, rfl⟩ _ _ ⟨a45, c45, rfl, rfl⟩; exact op_val (v' := .bool true) (by rw [decide_eq_true hfin]) (op_fn Try.func16 rfl rfl rfl (is_any (Sl.lab 18 rfl (by unfold maxLen; omega)) (Sl.lab 45 rfl (by unfold maxLen; omega)) (by assumption) (by assumption) (by omega)))),
          ⟨.plain rfl (by intro X; rintro _ _ ⟨rfl, rfl⟩ _ _ ⟨rfl, rfl⟩; exact op_pick_t rfl rfl),
          trivial⟩⟩⟩⟩⟩⟩⟩⟩⟩⟩⟩ ?_
      rintro _ _ ⟨rfl, rfl⟩ _ _ ⟨rfl, rfl⟩ _ _ ⟨rfl, rfl⟩ _ _ ⟨rfl, rfl⟩ _ _ ⟨rfl, rfl⟩ _ _ ⟨rfl, rfl⟩ _ _ ⟨a43, c43, rfl, rfl⟩ _ _ ⟨a44, c44, rfl, rfl⟩ _ _ ⟨a45, c45, rfl, rfl⟩ _ _ ⟨rfl, rfl⟩ _ _ ⟨rfl, rfl⟩
      refine wl_norm (e' := [(47, _)]) (.cons rfl (.nil _)) (by dsimp only [cond_false, cond_true, List.nil_append, List.cons_append]) ?_
      refine wl_det rfl rfl rfl (op_assign rfl) ?_
      refine wl_nil ?_
      refine st_tn ?_
      refine w_ret ?_
      refine st_ret (vs := [_]) [] Try.results6 ⟨rfl, trivial⟩ rfl ?_
      refine ⟨_, rfl, ?_⟩
      exact ⟨rfl, rfl⟩

/-- How many rows have a property. -/
def card (p : Int → Bool) : Nat := ((upto 0 1048575).filter p).length
theorem rows_card {m : List Run} {p : Int → Bool} (hw : WF m) (hi : inB 0 1048575 m) (hm : ∀ n, 0 ≤ n ∧ n ≤ 1048575 → (mem m n ↔ p n = true)) : (rows m).length = card p := by
  refine congrArg List.length (SS.ext (ss_rows hw) (SS.filter (ss_upto 0 1048575) p) fun x => ?_)
  rw [mem_rows, List.mem_filter, mem_upto]
  refine ⟨fun hx => ?_, fun h => (hm x h.1).2 h.2⟩
  have hb : 0 ≤ x ∧ x ≤ 1048575 := by
    obtain ⟨r, hr, h1, h2⟩ := hx
    have := hi r hr; omega
  exact ⟨hb, (hm x hb).1 hx⟩
theorem card_le (p : Int → Bool) : card p ≤ 1048576 := by
  have h := List.length_filter_le p (upto 0 1048575)
  rw [length_upto] at h
  unfold card; omega
theorem card_or (p q : Int → Bool) : card (fun n => p n || q n) + card (fun n => p n && q n) = card p + card q := by
  unfold card
  generalize upto 0 1048575 = l
  induction l with
  | nil => rfl
  | cons x l ih =>
    cases hp : p x <;> cases hq : q x <;> simp only [List.filter_cons, hp, hq, Bool.or_true, Bool.or_false, Bool.and_true, Bool.and_false, Bool.false_eq_true, if_true, if_false, List.length_cons] <;> omega
theorem card_not (p : Int → Bool) : card (fun n => !p n) + card p = 1048576 := by
  have h1 := card_or p (fun n => !p n)
  have h2 : card (fun n => p n || !p n) = 1048576 := by
    unfold card
    rw [List.filter_eq_self.2 (fun x _ => by cases p x <;> rfl), length_upto]; rfl
  have h3 : card (fun n => p n && !p n) = 0 := by
    unfold card
    rw [List.filter_eq_nil_iff.2 (fun x _ => by cases p x <;> simp)]; rfl
  omega
theorem setv_to {σ : World} {F : List Res} {f : Nat} {args : List Value} {R : RL} {p : Int → Prop} {lab : Nat} (q : Int → Prop) (h : FnT Try.prog σ F f args R (SetV p lab)) (hpq : ∀ n, p n ↔ q n) : FnT Try.prog σ F f args R (SetV q lab) :=
  fn_imp h fun u ρ ⟨m, a, c, h1, h2, h3, h4, h5⟩ => ⟨m, a, c, h1, h2, fun n => (h3 n).trans (hpq n), h4, h5⟩
theorem len_card {σ : World} {F : List Res} {a : Option Addr} {c : Nat} {m : List Run} (p : Int → Bool) (h : Sl σ F encRun 2 (.slice a m.length c) m) (hw : WF m) (hi : inB 0 1048575 m) (hm : ∀ n, 0 ≤ n ∧ n ≤ 1048575 → (mem m n ↔ p n = true)) :
    FnT Try.prog σ F 20 [bm a m.length c] [] (fun u ρ => u = .int .i64 (card p) ∧ ρ = []) :=
  fn_imp (len_s h hw hi) fun u ρ ⟨h1, h2⟩ => ⟨by rw [h1, rows_card hw hi hm], h2⟩
set_option maxHeartbeats 8000000 in
set_option maxRecDepth 100000 in
theorem lawLaws_any {σ : World} {F : List Res} {a1 a2 a3 : Option Addr} {c1 c2 c3 : Nat} {l1 l2 l3 : List (Int × Int)} {b1 b2 b3 : Int} (hb1 : 0 ≤ b1 ∧ b1 ≤ 65535) (h1 : Sl σ F encP8 2 (.slice a1 l1.length c1) l1) (hr1 : ∀ r ∈ l1, (0 ≤ r.1 ∧ r.1 ≤ 255) ∧ 0 ≤ r.2 ∧ r.2 ≤ 255)
    (hb2 : 0 ≤ b2 ∧ b2 ≤ 65535) (h2 : Sl σ F encP8 2 (.slice a2 l2.length c2) l2) (hr2 : ∀ r ∈ l2, (0 ≤ r.1 ∧ r.1 ≤ 255) ∧ 0 ≤ r.2 ∧ r.2 ≤ 255) (hb3 : 0 ≤ b3 ∧ b3 ≤ 65535) (h3 : Sl σ F encP8 2 (.slice a3 l3.length c3) l3) (hr3 : ∀ r ∈ l3, (0 ≤ r.1 ∧ r.1 ≤ 255) ∧ 0 ≤ r.2 ∧ r.2 ≤ 255) :
    FnT Try.prog σ F 7 [.agg #[.int .u16 b1, .slice a1 l1.length c1], .agg #[.int .u16 b2, .slice a2 l2.length c2], .agg #[.int .u16 b3, .slice a3 l3.length c3]] [] (fun u ρ => u = .bool true ∧ ρ = []) := by
  refine fn_of 110 Try.func7 rfl Try.ntmps7 rfl ?_
  refine w_seq ?_
  refine w_region ?_
  refine wl_op [] rfl rfl rfl rfl (op_box (T := 43) (l := 3) rfl) ?_
  rintro _ _ ⟨b3, rfl, rfl⟩
  refine wl_op [] rfl rfl rfl rfl (op_box (T := 43) (l := 4) rfl) ?_
  rintro _ _ ⟨b4, rfl, rfl⟩
  refine wl_op [] rfl rfl rfl rfl (op_box (T := 43) (l := 5) rfl) ?_
  rintro _ _ ⟨b5, rfl, rfl⟩
  refine wl_det rfl rfl rfl (op_assign rfl) ?_
  refine wl_nil ?_
  refine st_tn ?_
  refine w_seq ?_
  refine w_seq ?_
  refine w_region ?_
  refine wl_det rfl rfl rfl (op_fn Try.func13 rfl rfl rfl (known_any)) ?_
  refine wl_det rfl rfl rfl (op_not_t rfl) ?_
  refine wl_nil ?_
  refine st_tn ?_
  refine w_cond_f (rfl) ?_
  refine w_skip ?_
  refine st_tn ?_
  refine w_seq ?_
  refine w_draw (D := [⟨16, [], [], [], _, false, [], []⟩, ⟨17, [0], [], [], _, false, [], []⟩, ⟨18, [], [], [], _, false, [], []⟩, ⟨19, [2], [], [], _, false, [], []⟩, ⟨20, [], [], [], _, false, [], []⟩, ⟨21, [4], [], [], _, false, [], []⟩, ⟨7, [], [], [], _, false, [], []⟩, ⟨8, [], [], [], _, false, [], []⟩, ⟨9, [], [], [], _, false, [], []⟩]) [] [3, 4, 5] [⟨16, [], [], false, [], []⟩, ⟨17, [0], [], false, [], []⟩, ⟨18, [], [], false, [], []⟩, ⟨19, [2], [], false, [], []⟩, ⟨20, [], [], false, [], []⟩, ⟨21, [4], [], false, [], []⟩, ⟨7, [], [], false, [], []⟩, ⟨8, [], [], false, [], []⟩, ⟨9, [], [], false, [], []⟩] tMixw (by rfl) (by kernel_rfl) (by rfl) (by rfl)
      ⟨.plain rfl (by intro X; exact op_loadA rfl tA43w (Ent.lab (l := 3) rfl (says_cel 0)) (Nat.le_of_ble_eq_true rfl)),
      ⟨.plain rfl (by intro X; rintro _ _ ⟨rfl, rfl⟩; exact op_fn Try.func22 rfl rfl rfl (made_any 17 hb1 (Sl.app (Sl.app h1 X) _) hr1)),
      ⟨.plain rfl (by intro X; exact op_loadA rfl tA43w (Ent.lab (l := 4) rfl (says_cel 0)) (Nat.le_of_ble_eq_true rfl)),
      ⟨.plain rfl (by intro X; rintro _ _ ⟨rfl, rfl⟩; exact op_fn Try.func22 rfl rfl rfl (made_any 19 hb2 (Sl.app (Sl.app h2 X) _) hr2)),
      ⟨.plain rfl (by intro X; exact op_loadA rfl tA43w (Ent.lab (l := 5) rfl (says_cel 0)) (Nat.le_of_ble_eq_true rfl)),
      ⟨.plain rfl (by intro X; rintro _ _ ⟨rfl, rfl⟩; exact op_fn Try.func22 rfl rfl rfl (made_any 21 hb3 (Sl.app (Sl.app h3 X) _) hr3)),
      ⟨.plain rfl (by intro X; exact op_alloc (l := 7) tN26w),
      ⟨.plain rfl (by intro X; exact op_alloc (l := 8) tN26w),
      ⟨.plain rfl (by intro X; exact op_alloc (l := 9) tN26w),
      trivial⟩⟩⟩⟩⟩⟩⟩⟩⟩ ?_
  rintro _ _ ⟨rfl, rfl⟩ _ _ ⟨m17, a17, c17, hw17, hi17, hm17, rfl, rfl⟩ _ _ ⟨rfl, rfl⟩ _ _ ⟨m19, a19, c19, hw19, hi19, hm19, rfl, rfl⟩ _ _ ⟨rfl, rfl⟩ _ _ ⟨m21, a21, c21, hw21, hi21, hm21, rfl, rfl⟩ _ _ ⟨b7, rfl, rfl⟩ _ _ ⟨b8, rfl, rfl⟩ _ _ ⟨b9, rfl, rfl⟩
  have hl17 := wf_len hw17 hi17
  have hl19 := wf_len hw19 hi19
  have hl21 := wf_len hw21 hi21
  refine wl_norm (e' := [(7, _), (8, _), (9, _), (17, _), (19, _), (21, _)]) (.cons rfl (.cons rfl (.cons rfl (.cons rfl (.cons rfl (.cons rfl (.nil _))))))) (by dsimp only [cond_false, cond_true, List.nil_append, List.cons_append]) ?_
  refine wl_op0 [7] rfl rfl rfl (op_store rfl rfl tZ26w (by rfl) (by rfl) (by exact Nat.le_of_ble_eq_true rfl)) ?_
  rintro _ _ ⟨rfl, rfl⟩
  refine wl_op0 [8] rfl rfl rfl (op_store rfl rfl tZ26w (by rfl) (by rfl) (by exact Nat.le_of_ble_eq_true rfl)) ?_
  rintro _ _ ⟨rfl, rfl⟩
  refine wl_op0 [9] rfl rfl rfl (op_store rfl rfl tZ26w (by rfl) (by rfl) (by exact Nat.le_of_ble_eq_true rfl)) ?_
  rintro _ _ ⟨rfl, rfl⟩
  refine wl_nil ?_
  refine st_tn ?_
  refine w_seq ?_
  refine w_seq ?_
  refine w_draw (D := [⟨22, [], [], [], _, false, [], []⟩, ⟨23, [], [], [], _, false, [], []⟩, ⟨24, [], [], [], _, false, [], []⟩, ⟨25, [1, 2], [], [], _, false, [], []⟩, ⟨26, [0, 3], [], [], _, false, [], []⟩, ⟨27, [], [], [], _, false, [], []⟩, ⟨28, [], [], [], _, false, [], []⟩, ⟨29, [5, 6], [], [], _, false, [], []⟩, ⟨30, [], [], [], _, false, [], []⟩, ⟨31, [], [], [], _, false, [], []⟩, ⟨32, [8, 9], [], [], _, false, [], []⟩, ⟨33, [7, 10], [], [], _, false, [], []⟩, ⟨34, [4, 11], [], [], _, false, [], []⟩, ⟨35, [12], [], [], _, false, [], []⟩, ⟨36, [13], [], [], _, false, [], []⟩, ⟨37, [], [], [], _, false, [], []⟩, ⟨38, [], [], [], _, false, [], []⟩, ⟨39, [], [], [], _, false, [], []⟩, ⟨40, [16, 17], [], [], _, false, [], []⟩, ⟨41, [15, 18], [], [], _, false, [], []⟩, ⟨42, [], [], [], _, false, [], []⟩, ⟨43, [], [], [], _, false, [], []⟩, ⟨44, [20, 21], [], [], _, false, [], []⟩, ⟨45, [19, 22], [], [], _, false, [], []⟩, ⟨46, [23], [], [], _, false, [], []⟩, ⟨47, [14, 24], [], [], _, false, [], []⟩]) [] [7, 8, 9] [⟨22, [], [], false, [], []⟩, ⟨23, [], [], false, [], []⟩, ⟨24, [], [], false, [], []⟩, ⟨25, [1, 2], [], false, [], []⟩, ⟨26, [0, 3], [], false, [], []⟩, ⟨27, [], [], false, [], []⟩, ⟨28, [], [], false, [], []⟩, ⟨29, [5, 6], [], false, [], []⟩, ⟨30, [], [], false, [], []⟩, ⟨31, [], [], false, [], []⟩, ⟨32, [8, 9], [], false, [], []⟩, ⟨33, [7, 10], [], false, [], []⟩, ⟨34, [4, 11], [], false, [], []⟩, ⟨35, [12], [], false, [], []⟩, ⟨36, [13], [], false, [], []⟩, ⟨37, [], [], false, [], []⟩, ⟨38, [], [], false, [], []⟩, ⟨39, [], [], false, [], []⟩, ⟨40, [16, 17], [], false, [], []⟩, ⟨41, [15, 18], [], false, [], []⟩, ⟨42, [], [], false, [], []⟩, ⟨43, [], [], false, [], []⟩, ⟨44, [20, 21], [], false, [], []⟩, ⟨45, [19, 22], [], false, [], []⟩, ⟨46, [23], [], false, [], []⟩, ⟨47, [14, 24], [], false, [], []⟩] tMixw (by rfl) (by kernel_rfl) (by rfl) (by rfl)
      ⟨.plain rfl (by intro X; exact op_loadA rfl tA26w (Ent.lab (l := 7) rfl (says_cel 0)) (Nat.le_of_ble_eq_true rfl)),
      ⟨.plain rfl (by intro X; exact op_loadA rfl tA26w (Ent.lab (l := 8) rfl (says_cel 0)) (Nat.le_of_ble_eq_true rfl)),
      ⟨.plain rfl (by intro X; exact op_loadA rfl tA26w (Ent.lab (l := 9) rfl (says_cel 0)) (Nat.le_of_ble_eq_true rfl)),
      ⟨.plain rfl (by intro X; rintro _ _ ⟨rfl, rfl⟩ _ _ ⟨rfl, rfl⟩; exact op_fn Try.func32 rfl rfl rfl (or_s 25 (Sl.lab 19 rfl (by unfold maxLen; omega)) (Sl.lab 21 rfl (by unfold maxLen; omega)) (by assumption) (by assumption) (by assumption) (by assumption))),
      ⟨.plain rfl (by intro X; rintro _ _ ⟨rfl, rfl⟩ _ _ ⟨m25, a25, c25, hw25, hi25, hm25, rfl, rfl⟩; have hl25 := wf_len hw25 hi25; exact op_fn Try.func31 rfl rfl rfl (setv_to (fun n => mem m17 n ∧ (mem m19 n ∨ mem m21 n)) (and_s 26 (Sl.lab 17 rfl (by unfold maxLen; omega)) (Sl.lab 25 rfl (by unfold maxLen; omega)) hw17 hw25 hi17 hi25) (fun n => by simp only [hm25]))),
      ⟨.plain rfl (by intro X; exact op_loadA rfl tA26w (Ent.lab (l := 7) rfl (says_cel 0)) (Nat.le_of_ble_eq_true rfl)),
      ⟨.plain rfl (by intro X; exact op_loadA rfl tA26w (Ent.lab (l := 8) rfl (says_cel 0)) (Nat.le_of_ble_eq_true rfl)),
      ⟨.plain rfl (by intro X; rintro _ _ ⟨rfl, rfl⟩ _ _ ⟨rfl, rfl⟩; exact op_fn Try.func31 rfl rfl rfl (and_s 29 (Sl.lab 17 rfl (by unfold maxLen; omega)) (Sl.lab 19 rfl (by unfold maxLen; omega)) (by assumption) (by assumption) (by assumption) (by assumption))),
      ⟨.plain rfl (by intro X; exact op_loadA rfl tA26w (Ent.lab (l := 7) rfl (says_cel 0)) (Nat.le_of_ble_eq_true rfl)),
      ⟨.plain rfl (by intro X; exact op_loadA rfl tA26w (Ent.lab (l := 9) rfl (says_cel 0)) (Nat.le_of_ble_eq_true rfl)),
      ⟨.plain rfl (by intro X; rintro _ _ ⟨rfl, rfl⟩ _ _ ⟨rfl, rfl⟩; exact op_fn Try.func31 rfl rfl rfl (and_s 32 (Sl.lab 17 rfl (by unfold maxLen; omega)) (Sl.lab 21 rfl (by unfold maxLen; omega)) (by assumption) (by assumption) (by assumption) (by assumption))),
      ⟨.plain rfl (by intro X; rintro _ _ ⟨m29, a29, c29, hw29, hi29, hm29, rfl, rfl⟩ _ _ ⟨m32, a32, c32, hw32, hi32, hm32, rfl, rfl⟩; have hl29 := wf_len hw29 hi29; have hl32 := wf_len hw32 hi32; exact op_fn Try.func32 rfl rfl rfl (setv_to (fun n => (mem m17 n ∧ mem m19 n) ∨ (mem m17 n ∧ mem m21 n)) (or_s 33 (Sl.lab 29 rfl (by unfold maxLen; omega)) (Sl.lab 32 rfl (by unfold maxLen; omega)) hw29 hw32 hi29 hi32) (fun n => by simp only [hm29, hm32]))),
      ⟨.plain rfl (by intro X; rintro _ _ ⟨m26, a26, c26, hw26, hi26, hm26, rfl, rfl⟩ _ _ ⟨m33, a33, c33, hw33, hi33, hm33, rfl, rfl⟩; have hl26 := wf_len hw26 hi26; have hl33 := wf_len hw33 hi33; exact op_val (v' := .bool true) (by rw [decide_eq_true (WF.unique hw26 hw33 hm26 (fun n => by simp only [hm33, and_or_left]))]) (op_fn Try.func30 rfl rfl rfl (bequal_any (Sl.lab 26 rfl (by unfold maxLen; omega)) (Sl.lab 33 rfl (by unfold maxLen; omega))))),
      ⟨.plain rfl (by intro X; rintro _ _ ⟨rfl, rfl⟩; exact op_not_t rfl),
      ⟨.plain rfl (by intro X; rintro _ _ ⟨rfl, rfl⟩; exact op_move rfl),
      ⟨.wanted rfl rfl rfl (by rintro _ _ ⟨rfl, rfl⟩; rfl) (by intro X; exact op_loadA rfl tA26w (Ent.lab (l := 7) rfl (says_cel 0)) (Nat.le_of_ble_eq_true rfl)),
      ⟨.wanted rfl rfl rfl (by rintro _ _ ⟨rfl, rfl⟩; rfl) (by intro X; exact op_loadA rfl tA26w (Ent.lab (l := 7) rfl (says_cel 0)) (Nat.le_of_ble_eq_true rfl)),
      ⟨.wanted rfl rfl rfl (by rintro _ _ ⟨rfl, rfl⟩; rfl) (by intro X; exact op_loadA rfl tA26w (Ent.lab (l := 8) rfl (says_cel 0)) (Nat.le_of_ble_eq_true rfl)),
      ⟨.wanted rfl rfl rfl (by rintro _ _ ⟨rfl, rfl⟩; rfl) (by intro X; rintro _ _ ⟨rfl, rfl⟩ _ _ ⟨rfl, rfl⟩; exact op_fn Try.func33 rfl rfl rfl (andnot_s 40 (Sl.lab 17 rfl (by unfold maxLen; omega)) (Sl.lab 19 rfl (by unfold maxLen; omega)) (by assumption) (by assumption) (by assumption) (by assumption))),
      ⟨.wanted rfl rfl rfl (by rintro _ _ ⟨rfl, rfl⟩; rfl) (by intro X; rintro _ _ ⟨rfl, rfl⟩ _ _ ⟨m40, a40, c40, hw40, hi40, hm40, rfl, rfl⟩; have hl40 := wf_len hw40 hi40; exact op_fn Try.func33 rfl rfl rfl (setv_to (fun n => mem m17 n ∧ ¬ (mem m17 n ∧ ¬ mem m19 n)) (andnot_s 41 (Sl.lab 17 rfl (by unfold maxLen; omega)) (Sl.lab 40 rfl (by unfold maxLen; omega)) hw17 hw40 hi17 hi40) (fun n => by simp only [hm40]))),
      ⟨.wanted rfl rfl rfl (by rintro _ _ ⟨rfl, rfl⟩; rfl) (by intro X; exact op_loadA rfl tA26w (Ent.lab (l := 7) rfl (says_cel 0)) (Nat.le_of_ble_eq_true rfl)),
      ⟨.wanted rfl rfl rfl (by rintro _ _ ⟨rfl, rfl⟩; rfl) (by intro X; exact op_loadA rfl tA26w (Ent.lab (l := 8) rfl (says_cel 0)) (Nat.le_of_ble_eq_true rfl)),
      ⟨.wanted rfl rfl rfl (by rintro _ _ ⟨rfl, rfl⟩; rfl) (by intro X; rintro _ _ ⟨rfl, rfl⟩ _ _ ⟨rfl, rfl⟩; exact op_fn Try.func31 rfl rfl rfl (and_s 44 (Sl.lab 17 rfl (by unfold maxLen; omega)) (Sl.lab 19 rfl (by unfold maxLen; omega)) (by assumption) (by assumption) (by assumption) (by assumption))),
      ⟨.wanted rfl rfl rfl (by rintro _ _ ⟨rfl, rfl⟩; rfl) (by intro X; rintro _ _ ⟨m41, a41, c41, hw41, hi41, hm41, rfl, rfl⟩ _ _ ⟨m44, a44, c44, hw44, hi44, hm44, rfl, rfl⟩; have hl41 := wf_len hw41 hi41; have hl44 := wf_len hw44 hi44; exact op_val (v' := .bool true) (by rw [decide_eq_true (WF.unique hw41 hw44 hm41 (fun n => by simp only [hm44]; exact ⟨fun h => ⟨h.1, fun k => k.2 h.2⟩, fun h => ⟨h.1, Classical.byContradiction fun k => h.2 ⟨h.1, k⟩⟩⟩))]) (op_fn Try.func30 rfl rfl rfl (bequal_any (Sl.lab 41 rfl (by unfold maxLen; omega)) (Sl.lab 44 rfl (by unfold maxLen; omega))))),
      ⟨.wanted rfl rfl rfl (by rintro _ _ ⟨rfl, rfl⟩; rfl) (by intro X; rintro _ _ ⟨rfl, rfl⟩; exact op_not_t rfl),
      ⟨.plain rfl (by intro X; rintro _ _ ⟨rfl, rfl⟩ _ _ ⟨rfl, rfl⟩; exact op_pick_f rfl rfl),
      trivial⟩⟩⟩⟩⟩⟩⟩⟩⟩⟩⟩⟩⟩⟩⟩⟩⟩⟩⟩⟩⟩⟩⟩⟩⟩⟩ ?_
  rintro _ _ ⟨rfl, rfl⟩ _ _ ⟨rfl, rfl⟩ _ _ ⟨rfl, rfl⟩ _ _ ⟨m25, a25, c25, hw25, hi25, hm25, rfl, rfl⟩ _ _ ⟨m26, a26, c26, hw26, hi26, hm26, rfl, rfl⟩ _ _ ⟨rfl, rfl⟩ _ _ ⟨rfl, rfl⟩ _ _ ⟨m29, a29, c29, hw29, hi29, hm29, rfl, rfl⟩ _ _ ⟨rfl, rfl⟩ _ _ ⟨rfl, rfl⟩ _ _ ⟨m32, a32, c32, hw32, hi32, hm32, rfl, rfl⟩ _ _ ⟨m33, a33, c33, hw33, hi33, hm33, rfl, rfl⟩ _ _ ⟨rfl, rfl⟩ _ _ ⟨rfl, rfl⟩ _ _ ⟨rfl, rfl⟩ _ _ ⟨rfl, rfl⟩ _ _ ⟨rfl, rfl⟩ _ _ ⟨rfl, rfl⟩ _ _ ⟨m40, a40, c40, hw40, hi40, hm40, rfl, rfl⟩ _ _ ⟨m41, a41, c41, hw41, hi41, hm41, rfl, rfl⟩ _ _ ⟨rfl, rfl⟩ _ _ ⟨rfl, rfl⟩ _ _ ⟨m44, a44, c44, hw44, hi44, hm44, rfl, rfl⟩ _ _ ⟨rfl, rfl⟩ _ _ ⟨rfl, rfl⟩ _ _ ⟨rfl, rfl⟩
  have hl25 := wf_len hw25 hi25
  have hl26 := wf_len hw26 hi26
  have hl29 := wf_len hw29 hi29
  have hl32 := wf_len hw32 hi32
  have hl33 := wf_len hw33 hi33
  have hl40 := wf_len hw40 hi40
  have hl41 := wf_len hw41 hi41
  have hl44 := wf_len hw44 hi44
  refine wl_norm (e' := [(7, _), (8, _), (47, _)]) (.cons rfl (.cons rfl (.cons rfl (.nil _)))) (by dsimp only [cond_false, cond_true, List.nil_append, List.cons_append]) ?_
  refine wl_nil ?_
  refine st_tn ?_
  refine w_cond_f (rfl) ?_
  refine w_skip ?_
  refine st_tn ?_
  refine w_seq ?_
  refine w_region ?_
  refine wl_det rfl rfl rfl (op_loadA rfl tA26w (Ent.lab (l := 7) rfl (says_cel 0)) (Nat.le_of_ble_eq_true rfl)) ?_
  refine wl_op [] rfl rfl rfl rfl (op_fn Try.func19 rfl rfl rfl (not_s 50 _ (Sl.lab 17 rfl (by unfold maxLen; omega)) (by assumption) (by assumption))) ?_
  rintro _ _ ⟨m50, a50, c50, hw50, hi50, hm50, rfl, rfl⟩
  have hl50 := wf_len hw50 hi50
  refine wl_det rfl rfl rfl (op_move rfl) ?_
  refine wl_det rfl rfl rfl (op_extract rfl rfl) ?_
  refine wl_det rfl rfl rfl (op_extract rfl rfl) ?_
  refine wl_op [] rfl rfl rfl rfl (op_alloc (l := 10) tN26w) ?_
  rintro _ _ ⟨b10, rfl, rfl⟩
  refine wl_op0 [10] rfl rfl rfl (op_store rfl rfl tZ26w (by rfl) (by rfl) (by exact Nat.le_of_ble_eq_true rfl)) ?_
  rintro _ _ ⟨rfl, rfl⟩
  refine wl_det rfl rfl rfl (op_assign rfl) ?_
  refine wl_nil ?_
  refine st_tn ?_
  refine w_seq ?_
  have hm50' : ∀ n, mem m50 n ↔ (0 ≤ n ∧ n < 1048576) ∧ ¬ mem m17 n := fun n => (hm50 n).trans (by simp)
  refine w_region ?_
  refine wl_det rfl rfl rfl (op_loadA rfl tA26w (Ent.lab (l := 10) rfl (says_cel 0)) (Nat.le_of_ble_eq_true rfl)) ?_
  refine wl_op [] rfl rfl rfl rfl (op_fn Try.func19 rfl rfl rfl (not_s 55 _ (Sl.lab 50 rfl (by unfold maxLen; omega)) (by assumption) (by assumption))) ?_
  rintro _ _ ⟨m55, a55, c55, hw55, hi55, hm55, rfl, rfl⟩
  have hl55 := wf_len hw55 hi55
  refine wl_det rfl rfl rfl (op_move rfl) ?_
  refine wl_det rfl rfl rfl (op_extract rfl rfl) ?_
  refine wl_det rfl rfl rfl (op_extract rfl rfl) ?_
  refine wl_op [] rfl rfl rfl rfl (op_alloc (l := 12) tN26w) ?_
  rintro _ _ ⟨b12, rfl, rfl⟩
  refine wl_op0 [12] rfl rfl rfl (op_store rfl rfl tZ26w (by rfl) (by rfl) (by exact Nat.le_of_ble_eq_true rfl)) ?_
  rintro _ _ ⟨rfl, rfl⟩
  refine wl_det rfl rfl rfl (op_assign rfl) ?_
  refine wl_nil ?_
  refine st_tn ?_
  refine w_seq ?_
  have hm55' : ∀ n, mem m55 n ↔ mem m17 n := fun n => by
    refine (hm55 n).trans ?_
    simp only [hm50']
    constructor
    · intro h; exact Classical.byContradiction fun k => h.2.2 ⟨h.2.1, k⟩
    · intro h; obtain ⟨r, hr, q1, q2⟩ := h; have := hi17 r hr; exact ⟨by omega, by omega, fun k => k.2 ⟨r, hr, q1, q2⟩⟩
  have hc1 := card_le (memB m17)
  have hc2 := card_le (memB m19)
  have hc3 := card_le (fun n => memB m17 n || memB m19 n)
  have hc4 := card_le (fun n => memB m17 n && memB m19 n)
  refine w_draw (D := (⟨58, [], [], [], _, false, [], []⟩ :: ⟨59, [0], [], [], _, false, [], []⟩ :: ⟨60, [1], [], [], _, false, [], []⟩ :: ⟨61, [], [], [], _, false, [], []⟩ :: ⟨62, [3], [], [], _, false, [], []⟩ :: ⟨63, [2, 4], [], [], _, false, [], []⟩ :: ⟨64, [5], [], [], _, false, [], []⟩ :: ⟨65, [], [], [], _, false, [], []⟩ :: ⟨66, [], [], [], _, false, [], []⟩ :: ⟨67, [7, 8], [], [], _, false, [], []⟩ :: ⟨68, [6, 9], [], [], _, false, [], []⟩ :: ⟨69, [10], [], [], _, false, [], []⟩ :: ⟨70, [], [], [], _, false, [], []⟩ :: ⟨71, [12], [], [], _, false, [], []⟩ :: ⟨72, [], [], [], _, false, [], []⟩ :: ⟨73, [14], [], [], _, false, [], []⟩ :: ⟨74, [15], [], [], _, false, [], []⟩ :: ⟨75, [13, 16], [], [], _, false, [], []⟩ :: ⟨76, [11, 17], [], [], _, false, [], []⟩ :: ⟨77, [18], [], [], _, false, [], []⟩ :: ⟨78, [], [], [], _, false, [], []⟩ :: ⟨79, [], [], [], _, false, [], []⟩ :: ⟨80, [20, 21], [], [], _, false, [], []⟩ :: ⟨81, [], [], [], _, false, [], []⟩ :: ⟨82, [], [], [], _, false, [], []⟩ :: ⟨83, [23, 24], [], [], _, false, [], []⟩ :: ⟨84, [22, 25], [], [], _, false, [], []⟩ :: ⟨85, [19, 26], [], [], _, false, [], []⟩ :: ⟨86, [27], [], [], _, false, [], []⟩ :: ⟨87, [], [], [], _, false, [], []⟩ :: ⟨88, [], [], [], _, false, [], []⟩ :: ⟨89, [29, 30], [], [], _, false, [], []⟩ :: ⟨90, [], [], [], _, false, [], []⟩ :: ⟨91, [31, 32], [], [], _, false, [], []⟩ :: ⟨92, [28, 33], [], [], _, false, [], []⟩ :: ⟨93, [34], [], [], _, false, [], []⟩ :: ⟨94, [], [], [], _, false, [], []⟩ :: ⟨95, [], [], [], _, false, [], []⟩ :: ⟨96, [36, 37], [], [], _, false, [], []⟩ :: ⟨97, [38], [], [], _, false, [], []⟩ :: ⟨98, [], [], [], _, false, [], []⟩ :: ⟨99, [], [], [], _, false, [], []⟩ :: ⟨100, [40, 41], [], [], _, false, [], []⟩ :: ⟨101, [42], [], [], _, false, [], []⟩ :: ⟨102, [39, 43], [], [], _, false, [], []⟩ :: ⟨103, [], [], [], _, false, [], []⟩ :: ⟨104, [45], [], [], _, false, [], []⟩ :: ⟨105, [], [], [], _, false, [], []⟩ :: ⟨106, [47], [], [], _, false, [], []⟩ :: ⟨107, [46, 48], [], [], _, false, [], []⟩ :: ⟨108, [44, 49], [], [], _, false, [], []⟩ :: ⟨109, [35, 50], [], [], _, false, [], []⟩ :: [])) [] [11, 13, 12, 7, 10, 8] (⟨58, [], [], false, [], []⟩ :: ⟨59, [0], [], false, [], []⟩ :: ⟨60, [1], [], false, [], []⟩ :: ⟨61, [], [], false, [], []⟩ :: ⟨62, [3], [], false, [], []⟩ :: ⟨63, [2, 4], [], false, [], []⟩ :: ⟨64, [5], [], false, [], []⟩ :: ⟨65, [], [], false, [], []⟩ :: ⟨66, [], [], false, [], []⟩ :: ⟨67, [7, 8], [], false, [], []⟩ :: ⟨68, [6, 9], [], false, [], []⟩ :: ⟨69, [10], [], false, [], []⟩ :: ⟨70, [], [], false, [], []⟩ :: ⟨71, [12], [], false, [], []⟩ :: ⟨72, [], [], false, [], []⟩ :: ⟨73, [14], [], false, [], []⟩ :: ⟨74, [15], [], false, [], []⟩ :: ⟨75, [13, 16], [], false, [], []⟩ :: ⟨76, [11, 17], [], false, [], []⟩ :: ⟨77, [18], [], false, [], []⟩ :: ⟨78, [], [], false, [], []⟩ :: ⟨79, [], [], false, [], []⟩ :: ⟨80, [20, 21], [], false, [], []⟩ :: ⟨81, [], [], false, [], []⟩ :: ⟨82, [], [], false, [], []⟩ :: ⟨83, [23, 24], [], false, [], []⟩ :: ⟨84, [22, 25], [], false, [], []⟩ :: ⟨85, [19, 26], [], false, [], []⟩ :: ⟨86, [27], [], false, [], []⟩ :: ⟨87, [], [], false, [], []⟩ :: ⟨88, [], [], false, [], []⟩ :: ⟨89, [29, 30], [], false, [], []⟩ :: ⟨90, [], [], false, [], []⟩ :: ⟨91, [31, 32], [], false, [], []⟩ :: ⟨92, [28, 33], [], false, [], []⟩ :: ⟨93, [34], [], false, [], []⟩ :: ⟨94, [], [], false, [], []⟩ :: ⟨95, [], [], false, [], []⟩ :: ⟨96, [36, 37], [], false, [], []⟩ :: ⟨97, [38], [], false, [], []⟩ :: ⟨98, [], [], false, [], []⟩ :: ⟨99, [], [], false, [], []⟩ :: ⟨100, [40, 41], [], false, [], []⟩ :: ⟨101, [42], [], false, [], []⟩ :: ⟨102, [39, 43], [], false, [], []⟩ :: ⟨103, [], [], false, [], []⟩ :: ⟨104, [45], [], false, [], []⟩ :: ⟨105, [], [], false, [], []⟩ :: ⟨106, [47], [], false, [], []⟩ :: ⟨107, [46, 48], [], false, [], []⟩ :: ⟨108, [44, 49], [], false, [], []⟩ :: ⟨109, [35, 50], [], false, [], []⟩ :: []) tMixw (by rfl) (by kernel_rfl) (by rfl) (by rfl)
      ⟨.plain rfl (by intro X; exact op_move rfl),
      ⟨.plain rfl (by intro X; rintro _ _ ⟨rfl, rfl⟩; exact op_val (v' := .bool true) (by rfl) (op_eql rfl rfl)),
      ⟨.plain rfl (by intro X; rintro _ _ ⟨rfl, rfl⟩; exact op_move rfl),
      ⟨.wanted rfl rfl rfl (by rintro _ _ ⟨rfl, rfl⟩; rfl) (by intro X; exact op_move rfl),
      ⟨.wanted rfl rfl rfl (by rintro _ _ ⟨rfl, rfl⟩; rfl) (by intro X; rintro _ _ ⟨rfl, rfl⟩; exact op_val (v' := .bool true) (by rfl) (op_eql rfl rfl)),
      ⟨.plain rfl (by intro X; rintro _ _ ⟨rfl, rfl⟩ _ _ ⟨rfl, rfl⟩; exact op_pick_t rfl rfl),
      ⟨.plain rfl (by intro X; rintro _ _ ⟨rfl, rfl⟩; exact op_move rfl),
      ⟨.wanted rfl rfl rfl (by rintro _ _ ⟨rfl, rfl⟩; rfl) (by intro X; exact op_loadA rfl tA26w (Ent.lab (l := 12) rfl (says_cel 0)) (Nat.le_of_ble_eq_true rfl)),
      ⟨.wanted rfl rfl rfl (by rintro _ _ ⟨rfl, rfl⟩; rfl) (by intro X; exact op_loadA rfl tA26w (Ent.lab (l := 7) rfl (says_cel 0)) (Nat.le_of_ble_eq_true rfl)),
      ⟨.wanted rfl rfl rfl (by rintro _ _ ⟨rfl, rfl⟩; rfl) (by intro X; rintro _ _ ⟨rfl, rfl⟩ _ _ ⟨rfl, rfl⟩; exact op_val (v' := .bool true) (by rw [decide_eq_true (WF.unique hw55 hw17 hm55' (fun n => Iff.rfl))]) (op_fn Try.func30 rfl rfl rfl (bequal_any (Sl.lab 55 rfl (by unfold maxLen; omega)) (Sl.lab 17 rfl (by unfold maxLen; omega))))),
      ⟨.plain rfl (by intro X; rintro _ _ ⟨rfl, rfl⟩ _ _ ⟨rfl, rfl⟩; exact op_pick_t rfl rfl),
      ⟨.plain rfl (by intro X; rintro _ _ ⟨rfl, rfl⟩; exact op_move rfl),
      ⟨.wanted rfl rfl rfl (by rintro _ _ ⟨rfl, rfl⟩; rfl) (by intro X; exact op_loadA rfl tA26w (Ent.lab (l := 10) rfl (says_cel 0)) (Nat.le_of_ble_eq_true rfl)),
      ⟨.wanted rfl rfl rfl (by rintro _ _ ⟨rfl, rfl⟩; rfl) (by intro X; rintro _ _ ⟨rfl, rfl⟩; exact op_fn Try.func20 rfl rfl rfl (len_card (fun n => !memB m17 n) (Sl.lab 50 rfl (by unfold maxLen; omega)) hw50 hi50 (fun n hn => by rw [hm50', Bool.not_eq_true', memB_false]; exact ⟨fun h => h.2, fun h => ⟨by omega, h⟩⟩))),
      ⟨.wanted rfl rfl rfl (by rintro _ _ ⟨rfl, rfl⟩; rfl) (by intro X; exact op_loadA rfl tA26w (Ent.lab (l := 7) rfl (says_cel 0)) (Nat.le_of_ble_eq_true rfl)),
      ⟨.wanted rfl rfl rfl (by rintro _ _ ⟨rfl, rfl⟩; rfl) (by intro X; rintro _ _ ⟨rfl, rfl⟩; exact op_fn Try.func20 rfl rfl rfl (len_card (memB m17) (Sl.lab 17 rfl (by unfold maxLen; omega)) hw17 hi17 (fun n _ => memB_iff.symm))),
      ⟨.wanted rfl rfl rfl (by rintro _ _ ⟨rfl, rfl⟩; rfl) (by intro X; rintro _ _ ⟨rfl, rfl⟩; exact op_sub' rfl rfl (by omega)),
      ⟨.wanted rfl rfl rfl (by rintro _ _ ⟨rfl, rfl⟩; rfl) (by intro X; rintro _ _ ⟨rfl, rfl⟩ _ _ ⟨rfl, rfl⟩; exact op_val (v' := .bool true) (by rw [decide_eq_true (by have := card_not (memB m17); omega)]) (op_eql rfl rfl)),
      ⟨.plain rfl (by intro X; rintro _ _ ⟨rfl, rfl⟩ _ _ ⟨rfl, rfl⟩; exact op_pick_t rfl rfl),
      ⟨.plain rfl (by intro X; rintro _ _ ⟨rfl, rfl⟩; exact op_move rfl),
      ⟨.wanted rfl rfl rfl (by rintro _ _ ⟨rfl, rfl⟩; rfl) (by intro X; exact op_loadA rfl tA26w (Ent.lab (l := 8) rfl (says_cel 0)) (Nat.le_of_ble_eq_true rfl)),
      ⟨.wanted rfl rfl rfl (by rintro _ _ ⟨rfl, rfl⟩; rfl) (by intro X; exact op_loadA rfl tA26w (Ent.lab (l := 10) rfl (says_cel 0)) (Nat.le_of_ble_eq_true rfl)),
      ⟨.wanted rfl rfl rfl (by rintro _ _ ⟨rfl, rfl⟩; rfl) (by intro X; rintro _ _ ⟨rfl, rfl⟩ _ _ ⟨rfl, rfl⟩; exact op_fn Try.func31 rfl rfl rfl (and_s 80 (Sl.lab 19 rfl (by unfold maxLen; omega)) (Sl.lab 50 rfl (by unfold maxLen; omega)) (by assumption) (by assumption) (by assumption) (by assumption))),
      ⟨.wanted rfl rfl rfl (by rintro _ _ ⟨rfl, rfl⟩; rfl) (by intro X; exact op_loadA rfl tA26w (Ent.lab (l := 8) rfl (says_cel 0)) (Nat.le_of_ble_eq_true rfl)),
      ⟨.wanted rfl rfl rfl (by rintro _ _ ⟨rfl, rfl⟩; rfl) (by intro X; exact op_loadA rfl tA26w (Ent.lab (l := 7) rfl (says_cel 0)) (Nat.le_of_ble_eq_true rfl)),
      ⟨.wanted rfl rfl rfl (by rintro _ _ ⟨rfl, rfl⟩; rfl) (by intro X; rintro _ _ ⟨rfl, rfl⟩ _ _ ⟨rfl, rfl⟩; exact op_fn Try.func33 rfl rfl rfl (andnot_s 83 (Sl.lab 19 rfl (by unfold maxLen; omega)) (Sl.lab 17 rfl (by unfold maxLen; omega)) (by assumption) (by assumption) (by assumption) (by assumption))),
      ⟨.wanted rfl rfl rfl (by rintro _ _ ⟨rfl, rfl⟩; rfl) (by intro X; rintro _ _ ⟨m80, a80, c80, hw80, hi80, hm80, rfl, rfl⟩ _ _ ⟨m83, a83, c83, hw83, hi83, hm83, rfl, rfl⟩; have hl80 := wf_len hw80 hi80; have hl83 := wf_len hw83 hi83; exact op_val (v' := .bool true) (by rw [decide_eq_true (WF.unique hw80 hw83 hm80 (fun n => by simp only [hm83, hm50']; exact ⟨fun h => ⟨h.1, by obtain ⟨r, hr, q1, q2⟩ := h.1; have := hi19 r hr; omega, h.2⟩, fun h => ⟨h.1, h.2.2⟩⟩))]) (op_fn Try.func30 rfl rfl rfl (bequal_any (Sl.lab 80 rfl (by unfold maxLen; omega)) (Sl.lab 83 rfl (by unfold maxLen; omega))))),
      ⟨.plain rfl (by intro X; rintro _ _ ⟨rfl, rfl⟩ _ _ ⟨rfl, rfl⟩; exact op_pick_t rfl rfl),
      ⟨.plain rfl (by intro X; rintro _ _ ⟨rfl, rfl⟩; exact op_move rfl),
      ⟨.wanted rfl rfl rfl (by rintro _ _ ⟨rfl, rfl⟩; rfl) (by intro X; exact op_loadA rfl tA26w (Ent.lab (l := 7) rfl (says_cel 0)) (Nat.le_of_ble_eq_true rfl)),
      ⟨.wanted rfl rfl rfl (by rintro _ _ ⟨rfl, rfl⟩; rfl) (by intro X; exact op_loadA rfl tA26w (Ent.lab (l := 8) rfl (says_cel 0)) (Nat.le_of_ble_eq_true rfl)),
      ⟨.wanted rfl rfl rfl (by rintro _ _ ⟨rfl, rfl⟩; rfl) (by intro X; rintro _ _ ⟨rfl, rfl⟩ _ _ ⟨rfl, rfl⟩; exact op_fn Try.func31 rfl rfl rfl (and_s 89 (Sl.lab 17 rfl (by unfold maxLen; omega)) (Sl.lab 19 rfl (by unfold maxLen; omega)) (by assumption) (by assumption) (by assumption) (by assumption))),
      ⟨.wanted rfl rfl rfl (by rintro _ _ ⟨rfl, rfl⟩; rfl) (by intro X; exact op_loadA rfl tA26w (Ent.lab (l := 7) rfl (says_cel 0)) (Nat.le_of_ble_eq_true rfl)),
      ⟨.wanted rfl rfl rfl (by rintro _ _ ⟨rfl, rfl⟩; rfl) (by intro X; rintro _ _ ⟨m89, a89, c89, hw89, hi89, hm89, rfl, rfl⟩ _ _ ⟨rfl, rfl⟩; have hl89 := wf_len hw89 hi89; exact op_val (v' := .bool true) (by rw [decide_eq_true (fun x hx => mem_rows.2 ((hm89 x).1 (mem_rows.1 hx)).1)]) (op_fn Try.func34 rfl rfl rfl (subset_s (Sl.lab 89 rfl (by unfold maxLen; omega)) (Sl.lab 17 rfl (by unfold maxLen; omega)) (by assumption) (by assumption) (by assumption) (by assumption)))),
      ⟨.plain rfl (by intro X; rintro _ _ ⟨rfl, rfl⟩ _ _ ⟨rfl, rfl⟩; exact op_pick_t rfl rfl),
      ⟨.plain rfl (by intro X; rintro _ _ ⟨rfl, rfl⟩; exact op_move rfl),
      ⟨.wanted rfl rfl rfl (by rintro _ _ ⟨rfl, rfl⟩; rfl) (by intro X; exact op_loadA rfl tA26w (Ent.lab (l := 7) rfl (says_cel 0)) (Nat.le_of_ble_eq_true rfl)),
      ⟨.wanted rfl rfl rfl (by rintro _ _ ⟨rfl, rfl⟩; rfl) (by intro X; exact op_loadA rfl tA26w (Ent.lab (l := 8) rfl (says_cel 0)) (Nat.le_of_ble_eq_true rfl)),
      ⟨.wanted rfl rfl rfl (by rintro _ _ ⟨rfl, rfl⟩; rfl) (by intro X; rintro _ _ ⟨rfl, rfl⟩ _ _ ⟨rfl, rfl⟩; exact op_fn Try.func32 rfl rfl rfl (or_s 96 (Sl.lab 17 rfl (by unfold maxLen; omega)) (Sl.lab 19 rfl (by unfold maxLen; omega)) (by assumption) (by assumption) (by assumption) (by assumption))),
      ⟨.wanted rfl rfl rfl (by rintro _ _ ⟨rfl, rfl⟩; rfl) (by intro X; rintro _ _ ⟨m96, a96, c96, hw96, hi96, hm96, rfl, rfl⟩; have hl96 := wf_len hw96 hi96; exact op_fn Try.func20 rfl rfl rfl (len_card (fun n => memB m17 n || memB m19 n) (Sl.lab 96 rfl (by unfold maxLen; omega)) hw96 hi96 (fun n _ => by simp only [hm96]; rw [Bool.or_eq_true, memB_iff, memB_iff]))),
      ⟨.wanted rfl rfl rfl (by rintro _ _ ⟨rfl, rfl⟩; rfl) (by intro X; exact op_loadA rfl tA26w (Ent.lab (l := 7) rfl (says_cel 0)) (Nat.le_of_ble_eq_true rfl)),
      ⟨.wanted rfl rfl rfl (by rintro _ _ ⟨rfl, rfl⟩; rfl) (by intro X; exact op_loadA rfl tA26w (Ent.lab (l := 8) rfl (says_cel 0)) (Nat.le_of_ble_eq_true rfl)),
      ⟨.wanted rfl rfl rfl (by rintro _ _ ⟨rfl, rfl⟩; rfl) (by intro X; rintro _ _ ⟨rfl, rfl⟩ _ _ ⟨rfl, rfl⟩; exact op_fn Try.func31 rfl rfl rfl (and_s 100 (Sl.lab 17 rfl (by unfold maxLen; omega)) (Sl.lab 19 rfl (by unfold maxLen; omega)) (by assumption) (by assumption) (by assumption) (by assumption))),
      ⟨.wanted rfl rfl rfl (by rintro _ _ ⟨rfl, rfl⟩; rfl) (by intro X; rintro _ _ ⟨m100, a100, c100, hw100, hi100, hm100, rfl, rfl⟩; have hl100 := wf_len hw100 hi100; exact op_fn Try.func20 rfl rfl rfl (len_card (fun n => memB m17 n && memB m19 n) (Sl.lab 100 rfl (by unfold maxLen; omega)) hw100 hi100 (fun n _ => by simp only [hm100]; rw [Bool.and_eq_true, memB_iff, memB_iff]))),
      ⟨.wanted rfl rfl rfl (by rintro _ _ ⟨rfl, rfl⟩; rfl) (by intro X; rintro _ _ ⟨rfl, rfl⟩ _ _ ⟨rfl, rfl⟩; exact op_add' rfl rfl (by omega)),
      ⟨.wanted rfl rfl rfl (by rintro _ _ ⟨rfl, rfl⟩; rfl) (by intro X; exact op_loadA rfl tA26w (Ent.lab (l := 7) rfl (says_cel 0)) (Nat.le_of_ble_eq_true rfl)),
      ⟨.wanted rfl rfl rfl (by rintro _ _ ⟨rfl, rfl⟩; rfl) (by intro X; rintro _ _ ⟨rfl, rfl⟩; exact op_fn Try.func20 rfl rfl rfl (len_card (memB m17) (Sl.lab 17 rfl (by unfold maxLen; omega)) hw17 hi17 (fun n _ => memB_iff.symm))),
      ⟨.wanted rfl rfl rfl (by rintro _ _ ⟨rfl, rfl⟩; rfl) (by intro X; exact op_loadA rfl tA26w (Ent.lab (l := 8) rfl (says_cel 0)) (Nat.le_of_ble_eq_true rfl)),
      ⟨.wanted rfl rfl rfl (by rintro _ _ ⟨rfl, rfl⟩; rfl) (by intro X; rintro _ _ ⟨rfl, rfl⟩; exact op_fn Try.func20 rfl rfl rfl (len_card (memB m19) (Sl.lab 19 rfl (by unfold maxLen; omega)) hw19 hi19 (fun n _ => memB_iff.symm))),
      ⟨.wanted rfl rfl rfl (by rintro _ _ ⟨rfl, rfl⟩; rfl) (by intro X; rintro _ _ ⟨rfl, rfl⟩ _ _ ⟨rfl, rfl⟩; exact op_add' rfl rfl (by omega)),
      ⟨.wanted rfl rfl rfl (by rintro _ _ ⟨rfl, rfl⟩; rfl) (by intro X; rintro _ _ ⟨rfl, rfl⟩ _ _ ⟨rfl, rfl⟩; exact op_val (v' := .bool true) (by rw [decide_eq_true (by have := card_or (memB m17) (memB m19); omega)]) (op_eql rfl rfl)),
      ⟨.plain rfl (by intro X; rintro _ _ ⟨rfl, rfl⟩ _ _ ⟨rfl, rfl⟩; exact op_pick_t rfl rfl),
      trivial⟩⟩⟩⟩⟩⟩⟩⟩⟩⟩⟩⟩⟩⟩⟩⟩⟩⟩⟩⟩⟩⟩⟩⟩⟩⟩⟩⟩⟩⟩⟩⟩⟩⟩⟩⟩⟩⟩⟩⟩⟩⟩⟩⟩⟩⟩⟩⟩⟩⟩⟩⟩ ?_
  rintro _ _ ⟨rfl, rfl⟩ _ _ ⟨rfl, rfl⟩ _ _ ⟨rfl, rfl⟩ _ _ ⟨rfl, rfl⟩ _ _ ⟨rfl, rfl⟩ _ _ ⟨rfl, rfl⟩ _ _ ⟨rfl, rfl⟩ _ _ ⟨rfl, rfl⟩ _ _ ⟨rfl, rfl⟩ _ _ ⟨rfl, rfl⟩ _ _ ⟨rfl, rfl⟩ _ _ ⟨rfl, rfl⟩ _ _ ⟨rfl, rfl⟩ _ _ ⟨rfl, rfl⟩ _ _ ⟨rfl, rfl⟩ _ _ ⟨rfl, rfl⟩ _ _ ⟨rfl, rfl⟩ _ _ ⟨rfl, rfl⟩ _ _ ⟨rfl, rfl⟩ _ _ ⟨rfl, rfl⟩ _ _ ⟨rfl, rfl⟩ _ _ ⟨rfl, rfl⟩ _ _ ⟨m80, a80, c80, hw80, hi80, hm80, rfl, rfl⟩ _ _ ⟨rfl, rfl⟩ _ _ ⟨rfl, rfl⟩ _ _ ⟨m83, a83, c83, hw83, hi83, hm83, rfl, rfl⟩ _ _ ⟨rfl, rfl⟩ _ _ ⟨rfl, rfl⟩ _ _ ⟨rfl, rfl⟩ _ _ ⟨rfl, rfl⟩ _ _ ⟨rfl, rfl⟩ _ _ ⟨m89, a89, c89, hw89, hi89, hm89, rfl, rfl⟩ _ _ ⟨rfl, rfl⟩ _ _ ⟨rfl, rfl⟩ _ _ ⟨rfl, rfl⟩ _ _ ⟨rfl, rfl⟩ _ _ ⟨rfl, rfl⟩ _ _ ⟨rfl, rfl⟩ _ _ ⟨m96, a96, c96, hw96, hi96, hm96, rfl, rfl⟩ _ _ ⟨rfl, rfl⟩ _ _ ⟨rfl, rfl⟩ _ _ ⟨rfl, rfl⟩ _ _ ⟨m100, a100, c100, hw100, hi100, hm100, rfl, rfl⟩ _ _ ⟨rfl, rfl⟩ _ _ ⟨rfl, rfl⟩ _ _ ⟨rfl, rfl⟩ _ _ ⟨rfl, rfl⟩ _ _ ⟨rfl, rfl⟩ _ _ ⟨rfl, rfl⟩ _ _ ⟨rfl, rfl⟩ _ _ ⟨rfl, rfl⟩ _ _ ⟨rfl, rfl⟩
  have hl80 := wf_len hw80 hi80
  have hl83 := wf_len hw83 hi83
  have hl89 := wf_len hw89 hi89
  have hl96 := wf_len hw96 hi96
  have hl100 := wf_len hw100 hi100
  refine wl_norm (e' := [(109, _)]) (.cons rfl (.nil _)) (by dsimp only [cond_false, cond_true, List.nil_append, List.cons_append]) ?_
  refine wl_det rfl rfl rfl (op_assign rfl) ?_
  refine wl_nil ?_
  refine st_tn ?_
  refine w_ret ?_
  refine st_ret (vs := [_]) [] Try.results7 ⟨rfl, trivial⟩ rfl ?_
  refine ⟨_, rfl, ?_⟩
  exact ⟨rfl, rfl⟩

end Go.Proofs.Ytkknlfhncheflaa
