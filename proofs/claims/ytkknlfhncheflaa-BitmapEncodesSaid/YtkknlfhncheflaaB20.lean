/- Contracts of bitmap.Shift, Contains and Subset in terms of rows (layer 5). Conditions: none. -/
import Derived.Test.YtkknlfhncheflaaB19
namespace Go.Proofs.Ytkknlfhncheflaa
open Go Go.SL Go.RowKit Go.BitM
set_option linter.unusedVariables false
set_option linter.unusedSimpArgs false
theorem tA26u : aggB Try.prog 26 1 = true := by kernel_rfl
theorem tB26u : placesB Try.prog 26 = some ([(0, 1)], [Value.slice none 0 0]) := by kernel_rfl
theorem tF26_0u : fieldB Try.prog 26 0 0 = true := by kernel_rfl
theorem tF58_0u : fieldB Try.prog 58 0 0 = true := by kernel_rfl
theorem tF58_1u : fieldB Try.prog 58 1 1 = true := by kernel_rfl
theorem tMixu : Try.prog.follows .mixedOrders = true := by kernel_rfl
theorem tN26u : (Try.prog.info? 26).bind (·.zero) = some (Value.agg #[Value.slice none 0 0]) := by kernel_rfl
theorem tO24u : oneB Try.prog 24 = true := by kernel_rfl
theorem tO3u : oneB Try.prog 3 = true := by kernel_rfl
theorem tS24u : sliceB Try.prog 24 58 2 = true := by kernel_rfl
theorem tZ26u : (Try.prog.info? 26).map (·.size) = some 1 := by kernel_rfl

theorem contains_s {σ : World} {F : List Res} {a : Option Addr} {c : Nat} {rl : List Run} (row : Int) (h : Sl σ F encRun 2 (.slice a rl.length c) rl) :
    FnT Try.prog σ F 25 [bm a rl.length c, .int .i64 row] [] (fun u ρ => u = .bool (decide (row ∈ rows rl)) ∧ ρ = []) :=
  fn_imp (contains_any row h) fun u ρ ⟨h1, h2⟩ => ⟨by
    rw [h1]; congr 1
    rw [Bool.eq_iff_iff, List.any_eq_true, decide_eq_true_iff, mem_rows]
    exact ⟨fun ⟨r, h3, h4⟩ => ⟨r, h3, by simpa using h4⟩, fun ⟨r, h3, h4⟩ => ⟨r, h3, by simpa using h4⟩⟩, h2⟩
theorem subset_s {σ : World} {F : List Res} {p q : Option Addr} {c d : Nat} {a b : List Run} (ha : Sl σ F encRun 2 (.slice p a.length c) a) (hb : Sl σ F encRun 2 (.slice q b.length d) b)
    (hwa : WF a) (hwb : WF b) (hia : inB 0 1048575 a) (hib : inB 0 1048575 b) :
    FnT Try.prog σ F 34 [bm p a.length c, bm q b.length d] [] (fun u ρ => u = .bool (decide (∀ x ∈ rows a, x ∈ rows b)) ∧ ρ = []) :=
  fn_imp (subset_any ha hb hwa hwb hia hib) fun u ρ ⟨r, h1, h2, h3⟩ => ⟨by
    rw [h1]; congr 1
    rw [Bool.eq_iff_iff, h2, decide_eq_true_iff]
    exact ⟨fun h x hx => mem_rows.2 (h x (mem_rows.1 hx)), fun h n hn => mem_rows.1 (h n (mem_rows.2 hn))⟩, h3⟩
def fitsB (l : List Int) (y : Int) : Prop := ∀ x ∈ l, 0 ≤ x + y ∧ x + y < 1048576
instance (l : List Int) (y : Int) : Decidable (fitsB l y) := by unfold fitsB; infer_instance
def shR (y : Int) (r : Run) : Run := (r.1 + y, r.2 + y)
theorem mem_shR {rl : List Run} {y n : Int} : mem (rl.map (shR y)) n ↔ mem rl (n - y) := by
  unfold mem shR
  constructor
  · rintro ⟨r, hr, h⟩
    obtain ⟨q, hq, rfl⟩ := List.mem_map.1 hr
    exact ⟨q, hq, by simp only at h; omega⟩
  · rintro ⟨q, hq, h⟩
    exact ⟨_, List.mem_map.2 ⟨q, hq, rfl⟩, by simp only; omega⟩
theorem wf_shR {rl : List Run} (h : WF rl) (y : Int) : WF (rl.map (shR y)) := by
  refine ⟨fun r hr => ?_, ?_⟩
  · obtain ⟨q, hq, rfl⟩ := List.mem_map.1 hr
    have := h.1 q hq; simp only [Go.Proofs.Ytkknlfhncheflaa.shR]; omega
  · rw [List.pairwise_map]
    exact h.2.imp fun h => by simp only [Go.Proofs.Ytkknlfhncheflaa.shR]; omega
theorem set_take_drop {α : Type} {l : List α} {i : Nat} {x y : α} {f : α → α} (h : l[i]? = some x) (hy : f x = y) : ((l.take i).map f ++ l.drop i).set i y = (l.take (i + 1)).map f ++ l.drop (i + 1) := by
  subst hy
  obtain ⟨hi, rfl⟩ := List.getElem?_eq_some_iff.1 h
  have hl : ((l.take i).map f).length = i := by rw [List.length_map, List.length_take]; omega
  rw [List.set_append_right _ _ (by omega), hl, Nat.sub_self, List.drop_eq_getElem_cons hi, List.set_cons_zero, take_snoc h, List.map_append, List.append_assoc]; rfl
theorem get_take_drop {α : Type} {l : List α} {i : Nat} {x : α} {f : α → α} (h : l[i]? = some x) : ((l.take i).map f ++ l.drop i)[i]? = some x := by
  obtain ⟨hi, rfl⟩ := List.getElem?_eq_some_iff.1 h
  have hl : ((l.take i).map f).length = i := by rw [List.length_map, List.length_take]; omega
  rw [List.getElem?_append_right (by omega), hl, Nat.sub_self, List.drop_eq_getElem_cons hi]; rfl
set_option maxHeartbeats 2000000 in
set_option maxRecDepth 100000 in
theorem shift_s {σ : World} {F : List Res} {a : Option Addr} {c : Nat} {rl : List Run} (lab : Nat) (y : Int) (h : Sl σ F encRun 2 (.slice a rl.length c) rl) (hw : WF rl) (hi : inB 0 1048575 rl) (hy : -9223372036854775808 ≤ y ∧ y ≤ 9223372036854775807) :
    FnT Try.prog σ F 39 [bm a rl.length c, .int .i64 y] [] (SetE (fun n => fitsB (rows rl) y ∧ mem rl (n - y)) (if fitsB (rows rl) y then 0 else 2) lab) := by
  refine fn_of 72 Try.func39 rfl Try.ntmps39 rfl ?_
  have hlen := wf_len hw hi
  refine w_seq ?_
  refine w_region ?_
  refine wl_op [] rfl rfl rfl rfl (op_box (T := 26) (l := 2) rfl) ?_
  rintro _ _ ⟨b2, rfl, rfl⟩
  refine wl_op [] rfl rfl rfl rfl (op_alloc (l := 4) tN26u) ?_
  rintro _ _ ⟨b4, rfl, rfl⟩
  refine wl_det rfl rfl rfl (op_assign rfl) ?_
  refine wl_nil ?_
  refine st_tn ?_
  refine w_seq ?_
  refine w_seq ?_
  refine w_region ?_
  refine wl_det rfl rfl rfl (op_fieldAddr (off := 0) rfl tF26_0u) ?_
  refine wl_det rfl rfl rfl (op_load1 rfl tO24u (Ent.lab (l := 2) rfl (says_cel 0))) ?_
  refine wl_det rfl rfl rfl (op_lenT rfl tS24u (Sl.ent (by first | exact Sl.app (by assumption) _ | exact Sl.app (Sl.app (by assumption) _) _))) ?_
  refine wl_det rfl rfl rfl (op_eql rfl rfl) ?_
  refine wl_nil ?_
  refine st_tn ?_
  refine w_cond_d rfl (fun hc13 => ?_) (fun hc13 => ?_)
  · -- c13.t
    obtain rfl : rl = [] := List.eq_nil_of_length_eq_zero (by omega)
    refine w_emp 77 (slO_nil 58 2) ?_
    refine w_seq ?_
    refine w_region ?_
    refine wl_det rfl rfl rfl (op_build tB26u rfl rfl) ?_
    refine wl_op0 [4] rfl rfl rfl (op_store rfl rfl tZ26u (by rfl) (by rfl) (by exact Nat.le_of_ble_eq_true rfl)) ?_
    rintro _ _ ⟨rfl, rfl⟩
    refine wl_det rfl rfl rfl (op_assign rfl) ?_
    refine wl_nil ?_
    refine st_tn ?_
    refine w_ret ?_
    refine st_tr ?_
    refine st_ret (vs := [_, _]) [77] Try.results39 ⟨⟨_, rfl, Ent.mono (Ent.lab (l := 4) rfl (says_cel 0)) (fun _ h => run_load_agg tA26u h (Nat.le_of_ble_eq_true rfl))⟩, ⟨rfl, trivial⟩⟩ rfl ?_
    refine ⟨[(lab, _)], rfl, ?_⟩
    rw [if_pos (by intro x hx; simp [rows] at hx)]
    exact ⟨[], none, 0, WF.nil, inB_nil, fun n => ⟨fun h => absurd h (mem_nil n), fun h => absurd h.2 (mem_nil _)⟩, rfl, rfl⟩
  · -- c13.f
    refine w_skip ?_
    refine st_tn ?_
    refine w_seq ?_
    refine w_seq ?_
    obtain ⟨r0, hr0⟩ := getE (l := rl) (i := 0) (by omega)
    obtain ⟨rz, hrz⟩ := getE (l := rl) (i := ((rl.length : Int) - 1).toNat) (by omega)
    have hb0 := hi r0 (List.mem_of_getElem? hr0)
    have hbz := hi rz (List.mem_of_getElem? hrz)
    have hord : ∀ r ∈ rl, r0.1 ≤ r.1 ∧ r.2 ≤ rz.2 := fun r hr => by
      obtain ⟨j, hj⟩ := List.getElem?_of_mem hr
      obtain ⟨j1, rfl⟩ := List.getElem?_eq_some_iff.1 hj
      obtain ⟨z1, rfl⟩ := List.getElem?_eq_some_iff.1 hr0
      obtain ⟨z2, rfl⟩ := List.getElem?_eq_some_iff.1 hrz
      have e1 : j = 0 ∨ 0 < j := by omega
      have e2 : j = ((rl.length : Int) - 1).toNat ∨ j < ((rl.length : Int) - 1).toNat := by omega
      constructor
      · rcases e1 with e | e
        · subst e; omega
        · have := List.pairwise_iff_getElem.1 hw.2 0 j z1 j1 e; have := hi rl[0] (by simp); omega
      · rcases e2 with e | e
        · subst e; omega
        · have := List.pairwise_iff_getElem.1 hw.2 j _ j1 z2 e; have := hi rl[((rl.length : Int) - 1).toNat] (by simp); omega
    have hfit : fitsB (rows rl) y ↔ 0 ≤ r0.1 + y ∧ rz.2 + y < 1048576 := by
      constructor
      · intro hf
        have h1 := hf r0.1 (mem_rows.2 ⟨r0, List.mem_of_getElem? hr0, by omega⟩)
        have h2 := hf rz.2 (mem_rows.2 ⟨rz, List.mem_of_getElem? hrz, by omega⟩)
        omega
      · intro hf x hx
        obtain ⟨r, hr, h1, h2⟩ := mem_rows.1 hx
        have := hord r hr; omega
    refine w_draw (D := [⟨15, [], [], [], _, false, [], []⟩, ⟨16, [0], [], [], _, false, [], []⟩, ⟨17, [1], [], [], _, false, [], []⟩, ⟨18, [2], [], [], _, false, [], []⟩, ⟨19, [3], [], [], _, false, [], []⟩, ⟨20, [], [], [], _, false, [], []⟩, ⟨21, [5], [], [], _, false, [], []⟩, ⟨22, [], [], [], _, false, [], []⟩, ⟨23, [7], [], [], _, false, [], []⟩, ⟨24, [8], [], [], _, false, [], []⟩, ⟨25, [9], [], [], _, false, [], []⟩, ⟨26, [6, 10], [], [], _, false, [], []⟩, ⟨27, [11], [], [], _, false, [], []⟩, ⟨28, [12], [], [], _, false, [], []⟩, ⟨6, [4], [], [], _, false, [], []⟩]) [] [2] [⟨15, [], [], false, [], []⟩, ⟨16, [0], [], false, [], []⟩, ⟨17, [1], [], false, [], []⟩, ⟨18, [2], [], false, [], []⟩, ⟨19, [3], [], false, [], []⟩, ⟨20, [], [], false, [], []⟩, ⟨21, [5], [], false, [], []⟩, ⟨22, [], [], false, [], []⟩, ⟨23, [7], [], false, [], []⟩, ⟨24, [8], [], false, [], []⟩, ⟨25, [9], [], false, [], []⟩, ⟨26, [6, 10], [], false, [], []⟩, ⟨27, [11], [], false, [], []⟩, ⟨28, [12], [], false, [], []⟩, ⟨6, [4], [], false, [], []⟩] tMixu (by rfl) (by kernel_rfl) (by rfl) (by rfl)
        ⟨.plain rfl (by intro X; exact op_fieldAddr (off := 0) rfl tF26_0u),
        ⟨.plain rfl (by intro X; rintro _ _ ⟨rfl, rfl⟩; exact op_load1 rfl tO24u (Ent.lab (l := 2) rfl (says_cel 0))),
        ⟨.plain rfl (by intro X; rintro _ _ ⟨rfl, rfl⟩; exact op_idxZ rfl rfl tS24u (Sl.ent (by first | exact Sl.app (by assumption) _ | exact Sl.app (Sl.app (by assumption) _) _)) (by omega) (by omega)),
        ⟨.plain rfl (by intro X; rintro _ _ ⟨rfl, rfl⟩; exact op_fieldAddr (off := 0) rfl tF58_0u),
        ⟨.plain rfl (by intro X; rintro _ _ ⟨rfl, rfl⟩; exact op_ldxf rfl tO3u (by first | exact Sl.app (by assumption) _ | exact Sl.app (Sl.app (by assumption) _) _) (by assumption) (by rfl)),
        ⟨.plain rfl (by intro X; exact op_fieldAddr (off := 0) rfl tF26_0u),
        ⟨.plain rfl (by intro X; rintro _ _ ⟨rfl, rfl⟩; exact op_load1 rfl tO24u (Ent.lab (l := 2) rfl (says_cel 0))),
        ⟨.plain rfl (by intro X; exact op_fieldAddr (off := 0) rfl tF26_0u),
        ⟨.plain rfl (by intro X; rintro _ _ ⟨rfl, rfl⟩; exact op_load1 rfl tO24u (Ent.lab (l := 2) rfl (says_cel 0))),
        ⟨.plain rfl (by intro X; rintro _ _ ⟨rfl, rfl⟩; exact op_lenT rfl tS24u (Sl.ent (by first | exact Sl.app (by assumption) _ | exact Sl.app (Sl.app (by assumption) _) _))),
        ⟨.plain rfl (by intro X; rintro _ _ ⟨rfl, rfl⟩; exact op_sub' rfl rfl (by omega)),
        ⟨.plain rfl (by intro X; rintro _ _ ⟨rfl, rfl⟩ _ _ ⟨rfl, rfl⟩; exact op_idxZ rfl rfl tS24u (Sl.ent (by first | exact Sl.app (by assumption) _ | exact Sl.app (Sl.app (by assumption) _) _)) (by omega) (by omega)),
        ⟨.plain rfl (by intro X; rintro _ _ ⟨rfl, rfl⟩; exact op_fieldAddr (off := 1) rfl tF58_1u),
        ⟨.plain rfl (by intro X; rintro _ _ ⟨rfl, rfl⟩; exact op_ldxf rfl tO3u (by first | exact Sl.app (by assumption) _ | exact Sl.app (Sl.app (by assumption) _) _) (by assumption) (by rfl)),
        ⟨.plain rfl (by intro X; rintro _ _ ⟨rfl, rfl⟩; exact op_assign rfl),
        trivial⟩⟩⟩⟩⟩⟩⟩⟩⟩⟩⟩⟩⟩⟩⟩ ?_
    rintro _ _ ⟨rfl, rfl⟩ _ _ ⟨rfl, rfl⟩ _ _ ⟨rfl, rfl⟩ _ _ ⟨rfl, rfl⟩ _ _ ⟨rfl, rfl⟩ _ _ ⟨rfl, rfl⟩ _ _ ⟨rfl, rfl⟩ _ _ ⟨rfl, rfl⟩ _ _ ⟨rfl, rfl⟩ _ _ ⟨rfl, rfl⟩ _ _ ⟨rfl, rfl⟩ _ _ ⟨rfl, rfl⟩ _ _ ⟨rfl, rfl⟩ _ _ ⟨rfl, rfl⟩ _ _ ⟨rfl, rfl⟩
    refine wl_norm (e' := [(1, _), (2, _), (4, _), (6, _), (28, _)]) (.cons rfl (.cons rfl (.cons rfl (.cons rfl (.cons rfl (.nil _)))))) (by dsimp only [cond_false, cond_true, List.nil_append, List.cons_append]) ?_
    refine wl_det rfl rfl rfl (op_assign rfl) ?_
    refine wl_nil ?_
    refine st_tn ?_
    refine w_seq ?_
    refine w_cutL [(38, .bool (decide (¬ (0 ≤ r0.1 + y ∧ rz.2 + y < 1048576))))] [1, 2, 4] [2, 4] rfl (fun K' hK => ?_) ?_
    · -- cut r4
      refine w_region ?_
      refine wl_det rfl rfl rfl (op_move rfl) ?_
      refine wl_det rfl rfl rfl (op_move rfl) ?_
      refine wl_det rfl rfl rfl (op_neg rfl (by omega)) ?_
      refine wl_det rfl rfl rfl (op_lss rfl rfl) ?_
      refine wl_det rfl rfl rfl (op_move rfl) ?_
      refine wl_gsplit (t := 33) rfl (fun hg33 => ?_) (fun hg33 => ?_)
      · -- 33 is True
        refine wl_unwanted rfl rfl rfl rfl rfl rfl rfl rfl ?_
        refine wl_unwanted rfl rfl rfl rfl rfl rfl rfl rfl ?_
        refine wl_unwanted rfl rfl rfl rfl rfl rfl rfl rfl ?_
        refine wl_unwanted rfl rfl rfl rfl rfl rfl rfl rfl ?_
        refine wl_det rfl rfl rfl (op_pick_t rfl rfl) ?_
        refine wl_nil ?_
        refine st_tn ?_
        exact cut_done1 [2, 4] hK rfl (by first | (rw [decide_eq_decide]; omega) | (symm; rw [decide_eq_false_iff_not]; omega) | (symm; rw [decide_eq_true_iff]; omega) | (simp; done) | (simp; omega) | (simp [*]; done) | (simp [*]; omega)) (by rfl) rfl rfl
      · -- 33 is False
        refine wl_wanted_det rfl rfl rfl rfl rfl rfl rfl (op_move rfl) ?_
        refine wl_wanted_det rfl rfl rfl rfl rfl rfl rfl (op_move rfl) ?_
        refine wl_wanted_det rfl rfl rfl rfl rfl rfl rfl (op_sub' rfl rfl (by omega)) ?_
        refine wl_wanted_det rfl rfl rfl rfl rfl rfl rfl (op_gtr rfl rfl) ?_
        refine wl_det rfl rfl rfl (op_pick_f rfl rfl) ?_
        refine wl_nil ?_
        refine st_tn ?_
        exact cut_done1 [2, 4] hK rfl (by first | (rw [decide_eq_decide]; omega) | (symm; rw [decide_eq_false_iff_not]; omega) | (symm; rw [decide_eq_true_iff]; omega) | (simp; done) | (simp; omega) | (simp [*]; done) | (simp [*]; omega)) (by rfl) rfl rfl
    · -- behind r4
      show W _ _ _ _ _ [(38, _), (1, _), (2, _), (4, _)] [(2, _), (4, _)] _
      refine w_cond_d rfl (fun hc38 => ?_) (fun hc38 => ?_)
      · -- c38.t
        refine w_emp 77 (slO_nil 58 2) ?_
        refine w_seq ?_
        refine w_region ?_
        refine wl_det rfl rfl rfl (op_build tB26u rfl rfl) ?_
        refine wl_op0 [4] rfl rfl rfl (op_store rfl rfl tZ26u (by rfl) (by rfl) (by exact Nat.le_of_ble_eq_true rfl)) ?_
        rintro _ _ ⟨rfl, rfl⟩
        refine wl_det rfl rfl rfl (op_assign rfl) ?_
        refine wl_nil ?_
        refine st_tn ?_
        refine w_ret ?_
        refine st_tr ?_
        refine st_ret (vs := [_, _]) [77] Try.results39 ⟨⟨_, rfl, Ent.mono (Ent.lab (l := 4) rfl (says_cel 0)) (fun _ h => run_load_agg tA26u h (Nat.le_of_ble_eq_true rfl))⟩, ⟨rfl, trivial⟩⟩ rfl ?_
        refine ⟨[(lab, _)], rfl, ?_⟩
        have hno : ¬ fitsB (rows rl) y := fun h => hc38 (hfit.1 h)
        rw [if_neg hno]
        exact ⟨[], none, 0, WF.nil, inB_nil, fun n => ⟨fun h => absurd h (mem_nil n), fun h => absurd h.1 hno⟩, rfl, rfl⟩
      · -- c38.f
        have hok : 0 ≤ r0.1 + y ∧ rz.2 + y < 1048576 := Classical.byContradiction hc38
        refine w_skip ?_
        refine st_tn ?_
        refine w_seq ?_
        refine w_region ?_
        refine wl_det rfl rfl rfl (op_loadA rfl tA26u (Ent.lab (l := 2) rfl (says_cel 0)) (Nat.le_of_ble_eq_true rfl)) ?_
        refine wl_op [] rfl rfl rfl rfl (op_fn Try.func37 rfl rfl rfl (runs_any 41 (by first | exact Sl.app (by assumption) _ | exact Sl.app (Sl.app (by assumption) _) _) (by omega))) ?_
        rintro _ _ ⟨a41, c41, rfl, rfl⟩
        refine wl_det rfl rfl rfl (op_assign rfl) ?_
        refine wl_nil ?_
        refine st_tn ?_
        refine w_seq ?_
        refine w_seq ?_
        refine w_region ?_
        refine wl_det rfl rfl rfl (op_move rfl) ?_
        refine wl_det rfl rfl rfl (op_lenT rfl tS24u (Sl.ent (Sl.lab 41 rfl (by unfold maxLen; omega)))) ?_
        refine wl_det rfl rfl rfl (op_move rfl) ?_
        refine wl_nil ?_
        refine st_tn ?_
        refine w_block ?_
        refine w_loopQ (X := Nat × List Run) (fun z => z.1 ≤ rl.length ∧ z.2 = (rl.take z.1).map (shR y) ++ rl.drop z.1) (fun z => [(44, .int .i64 (z.1))]) (fun z => [(41, slW 58 encRun 2 (.slice a41 (rl.length) c41) (z.2))]) (fun z => rl.length - z.1) ((0, _)) [(1, _), (4, _), (8, _), (43, _)] [(2, _), (4, _)] [41, 2, 4] rfl (rfl) (.cons rfl (.nil _)) (.cons rfl (.cons rfl (.cons rfl (.cons rfl (.nil _))))) (by
            try dsimp only
            exact ⟨Nat.zero_le _, by simp⟩) ?_
        rintro ⟨i, cur⟩ ⟨hil, hcur⟩
        refine w_norm2 (by dsimp only [List.cons_append, List.nil_append]) (by dsimp only [List.cons_append, List.nil_append]) ?_
        try dsimp only at hil hcur ⊢
        refine w_seq ?_
        refine w_region ?_
        refine wl_det rfl rfl rfl (op_lss rfl rfl) ?_
        refine wl_nil ?_
        refine st_tn ?_
        refine w_seq ?_
        refine w_cond_d rfl (fun hc45 => ?_) (fun hc45 => ?_)
        · -- c45.t
          obtain ⟨x, hx⟩ := getE (l := rl) (i := i) (by omega)
          have hlt := ltE hx
          have hxb := hi x (List.mem_of_getElem? hx)
          have hxo := hord x (List.mem_of_getElem? hx)
          have hcx : cur[i]? = some x := by rw [hcur]; exact get_take_drop hx
          have hcl : cur.length = rl.length := by rw [hcur]; simp; omega
          refine w_skip ?_
          refine st_tn ?_
          refine w_seq ?_
          refine w_block ?_
          refine w_seq ?_
          refine w_region ?_
          refine wl_det rfl rfl rfl (op_move rfl) ?_
          refine wl_det rfl rfl rfl (op_assign rfl) ?_
          refine wl_nil ?_
          refine st_tn ?_
          refine w_fact (Sl.shape (Sl.lab 41 rfl (by unfold maxLen; omega))) (fun hsh => ?_)
          have hnn : a41 = none → rl.length = 0 := fun e => by rw [hsh.1, hsh.2.1 e]; rfl
          refine w_draw (D := [⟨47, [], [], [], _, false, [], []⟩, ⟨48, [], [], [], _, false, [], []⟩, ⟨49, [], [], [], _, false, [], []⟩, ⟨50, [], [], [], _, false, [], []⟩, ⟨51, [], [], [], _, false, [], []⟩, ⟨52, [], [], [], _, false, [], []⟩, ⟨53, [4, 5], [], [], _, false, [], []⟩, ⟨54, [6], [], [], _, false, [], []⟩, ⟨55, [7], [], [], _, false, [20], []⟩, ⟨56, [], [], [], _, false, [], []⟩, ⟨57, [8, 9], [], [], _, false, [], []⟩, ⟨58, [], [], [], _, false, [], []⟩, ⟨59, [], [], [], _, false, [], []⟩, ⟨60, [11, 12], [], [], _, false, [], []⟩, ⟨61, [13], [], [], _, false, [], []⟩, ⟨62, [14], [], [], _, false, [20], []⟩, ⟨63, [], [], [], _, false, [], []⟩, ⟨64, [15, 16], [], [], _, false, [], []⟩, ⟨65, [0, 1], [], [], _, false, [], []⟩, ⟨66, [18], [], [], _, false, [], []⟩, ⟨92, [19, 10], [], [(41, _)], _, false, [], []⟩]) [41] [8, 9, 1] [⟨47, [], [], false, [], []⟩, ⟨48, [], [], false, [], []⟩, ⟨49, [], [], false, [], []⟩, ⟨50, [], [], false, [], []⟩, ⟨51, [], [], false, [], []⟩, ⟨52, [], [], false, [], []⟩, ⟨53, [4, 5], [], false, [], []⟩, ⟨54, [6], [], false, [], []⟩, ⟨55, [7], [], false, [20], []⟩, ⟨56, [], [], false, [], []⟩, ⟨57, [8, 9], [], false, [], []⟩, ⟨58, [], [], false, [], []⟩, ⟨59, [], [], false, [], []⟩, ⟨60, [11, 12], [], false, [], []⟩, ⟨61, [13], [], false, [], []⟩, ⟨62, [14], [], false, [20], []⟩, ⟨63, [], [], false, [], []⟩, ⟨64, [15, 16], [], false, [], []⟩, ⟨65, [0, 1], [], false, [], []⟩, ⟨66, [18], [], false, [], []⟩, ⟨92, [19, 10], [], false, [], []⟩] tMixu (by rfl) (by kernel_rfl) (by rfl) (by rfl)
              ⟨.plain rfl (by intro X; exact op_move rfl),
              ⟨.plain rfl (by intro X; exact op_move rfl),
              ⟨.plain rfl (by intro X; exact op_move rfl),
              ⟨.plain rfl (by intro X; exact op_move rfl),
              ⟨.plain rfl (by intro X; exact op_move rfl),
              ⟨.plain rfl (by intro X; exact op_move rfl),
              ⟨.plain rfl (by intro X; rintro _ _ ⟨rfl, rfl⟩ _ _ ⟨rfl, rfl⟩; exact op_idxV rfl rfl tS24u hnn (by omega)),
              ⟨.plain rfl (by intro X; rintro _ _ ⟨rfl, rfl⟩; exact op_fieldAddr (off := 0) rfl tF58_0u),
              ⟨.plain rfl (by intro X; rintro _ _ ⟨rfl, rfl⟩; exact op_ldxf rfl tO3u (Sl.lab 41 rfl (by unfold maxLen; omega)) (by assumption) (by rfl)),
              ⟨.plain rfl (by intro X; exact op_move rfl),
              ⟨.plain rfl (by intro X; rintro _ _ ⟨rfl, rfl⟩ _ _ ⟨rfl, rfl⟩; exact op_add' rfl rfl (by omega)),
              ⟨.plain rfl (by intro X; exact op_move rfl),
              ⟨.plain rfl (by intro X; exact op_move rfl),
              ⟨.plain rfl (by intro X; rintro _ _ ⟨rfl, rfl⟩ _ _ ⟨rfl, rfl⟩; exact op_idxV rfl rfl tS24u hnn (by omega)),
              ⟨.plain rfl (by intro X; rintro _ _ ⟨rfl, rfl⟩; exact op_fieldAddr (off := 1) rfl tF58_1u),
              ⟨.plain rfl (by intro X; rintro _ _ ⟨rfl, rfl⟩; exact op_ldxf rfl tO3u (Sl.lab 41 rfl (by unfold maxLen; omega)) (by assumption) (by rfl)),
              ⟨.plain rfl (by intro X; exact op_move rfl),
              ⟨.plain rfl (by intro X; rintro _ _ ⟨rfl, rfl⟩ _ _ ⟨rfl, rfl⟩; exact op_add' rfl rfl (by omega)),
              ⟨.plain rfl (by intro X; rintro _ _ ⟨rfl, rfl⟩ _ _ ⟨rfl, rfl⟩; exact op_idxV rfl rfl tS24u hnn (by omega)),
              ⟨.plain rfl (by intro X; rintro _ _ ⟨rfl, rfl⟩; exact op_fieldAddr (off := 0) rfl tF58_0u),
              ⟨.plain rfl (by intro X; rintro _ _ ⟨rfl, rfl⟩ _ _ ⟨rfl, rfl⟩; exact op_storeX (lab := 41) (j := 0) (b' := (x.1 + y, x.2)) rfl rfl tO3u rfl rfl rfl hcx (by decide) rfl) (hu := by exact .inr fun _ _ h => h.1),
              trivial⟩⟩⟩⟩⟩⟩⟩⟩⟩⟩⟩⟩⟩⟩⟩⟩⟩⟩⟩⟩⟩ ?_
          rintro _ _ ⟨rfl, rfl⟩ _ _ ⟨rfl, rfl⟩ _ _ ⟨rfl, rfl⟩ _ _ ⟨rfl, rfl⟩ _ _ ⟨rfl, rfl⟩ _ _ ⟨rfl, rfl⟩ _ _ ⟨rfl, rfl⟩ _ _ ⟨rfl, rfl⟩ _ _ ⟨rfl, rfl⟩ _ _ ⟨rfl, rfl⟩ _ _ ⟨rfl, rfl⟩ _ _ ⟨rfl, rfl⟩ _ _ ⟨rfl, rfl⟩ _ _ ⟨rfl, rfl⟩ _ _ ⟨rfl, rfl⟩ _ _ ⟨rfl, rfl⟩ _ _ ⟨rfl, rfl⟩ _ _ ⟨rfl, rfl⟩ _ _ ⟨rfl, rfl⟩ _ _ ⟨rfl, rfl⟩ _ _ ⟨rfl, rfl⟩
          refine wl_norm (e' := [(1, _), (4, _), (8, _), (43, _), (44, _), (49, _), (50, _), (64, _)]) (.cons rfl (.cons rfl (.cons rfl (.cons rfl (.cons rfl (.cons rfl (.cons rfl (.cons rfl (.nil _))))))))) (by dsimp only [cond_false, cond_true, List.nil_append, List.cons_append]) ?_
          refine wl_det rfl rfl rfl (op_idxV rfl rfl tS24u hnn (by omega)) ?_
          refine wl_det rfl rfl rfl (op_fieldAddr (off := 1) rfl tF58_1u) ?_
          refine wl_op0 [41] rfl rfl rfl (op_storeX (lab := 41) (j := 1) (b := (x.1 + y, x.2)) (b' := (x.1 + y, x.2 + y)) rfl rfl tO3u rfl rfl rfl (by rw [List.getElem?_set_self (by omega)]) (by decide) rfl) ?_
          rintro _ _ ⟨rfl, rfl⟩
          refine wl_nil ?_
          refine st_bn ?_
          refine st_tn ?_
          refine w_region ?_
          refine wl_det rfl rfl rfl (op_add' rfl rfl (by omega)) ?_
          refine wl_det rfl rfl rfl (op_move rfl) ?_
          refine wl_nil ?_
          refine st_roundQ (x := (i, cur)) ((i + 1, _)) [41, 2, 4] rfl (rfl) (.cons rfl (.nil _)) (.cons rfl (.cons rfl (.cons rfl (.cons rfl (.nil _))))) (by
              try dsimp only
              exact ⟨by omega, by rw [List.set_set, hcur]; exact set_take_drop hx rfl⟩) (by
              try dsimp only
              omega) 
        · -- c45.f
          refine w_exit ?_
          refine st_te ?_
          refine st_te ?_
          refine st_be ?_
          refine st_tn ?_
          refine w_seq ?_
          refine w_region ?_
          refine wl_det rfl rfl rfl (op_move rfl) ?_
          refine wl_det rfl rfl rfl (op_build tB26u rfl rfl) ?_
          refine wl_op0 [4] rfl rfl rfl (op_store rfl rfl tZ26u (by rfl) (by rfl) (by exact Nat.le_of_ble_eq_true rfl)) ?_
          rintro _ _ ⟨rfl, rfl⟩
          refine wl_det rfl rfl rfl (op_assign rfl) ?_
          refine wl_nil ?_
          refine st_tn ?_
          refine w_ret ?_
          refine st_ret (vs := [_, _]) [41] Try.results39 ⟨⟨_, rfl, Ent.mono (Ent.lab (l := 4) rfl (says_cel 0)) (fun _ h => run_load_agg tA26u h (Nat.le_of_ble_eq_true rfl))⟩, ⟨rfl, trivial⟩⟩ rfl ?_
          refine ⟨[(lab, _)], rfl, ?_⟩
          have hcf : cur = rl.map (shR y) := by rw [hcur, List.take_of_length_le (by omega), List.drop_of_length_le (by omega), List.append_nil]
          rw [if_pos (hfit.2 hok)]
          refine ⟨cur, a41, c41, by rw [hcf]; exact wf_shR hw y, fun r hr => ?_, fun n => ?_, by rw [show cur.length = rl.length by rw [hcf, List.length_map]]; rfl, by rw [show cur.length = rl.length by rw [hcf, List.length_map]]⟩
          · rw [hcf] at hr
            obtain ⟨q, hq, rfl⟩ := List.mem_map.1 hr
            have := hord q hq; have := hi q hq; simp only [shR]; omega
          · rw [hcf, mem_shR]; exact ⟨fun h => ⟨hfit.2 hok, h⟩, fun h => h.2⟩

end Go.Proofs.Ytkknlfhncheflaa
