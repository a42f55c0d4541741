/- Contracts of bitmap.FromRuns, Shift and of the reference's CheckRuns (layer 5). Conditions: none. -/
import Derived.Test.YtkknlfhncheflaaB12
namespace Go.Proofs.Ytkknlfhncheflaa
open Go Go.SL Go.RowKit Go.BitM
set_option linter.unusedVariables false
set_option linter.unusedSimpArgs false
theorem tA26m : aggB Try.prog 26 1 = true := by kernel_rfl
theorem tA58m : aggB Try.prog 58 2 = true := by kernel_rfl
theorem tB26m : placesB Try.prog 26 = some ([(0, 1)], [Value.slice none 0 0]) := by kernel_rfl
theorem tF58_0m : fieldB Try.prog 58 0 0 = true := by kernel_rfl
theorem tF58_1m : fieldB Try.prog 58 1 1 = true := by kernel_rfl
theorem tL22_2m : zerosB Try.prog 22 3 1 2 = some [Value.int .i64 0, Value.int .i64 0] := by kernel_rfl
theorem tMixm : Try.prog.follows .mixedOrders = true := by kernel_rfl
theorem tN26m : (Try.prog.info? 26).bind (·.zero) = some (Value.agg #[Value.slice none 0 0]) := by kernel_rfl
theorem tN58m : (Try.prog.info? 58).bind (·.zero) = some (Value.agg #[Value.int .i64 0, Value.int .i64 0]) := by kernel_rfl
theorem tO3m : oneB Try.prog 3 = true := by kernel_rfl
theorem tR37m : arrB Try.prog 37 2 1 = true := by kernel_rfl
theorem tS24m : sliceB Try.prog 24 58 2 = true := by kernel_rfl
theorem tS38m : sliceB Try.prog 38 37 2 = true := by kernel_rfl
theorem tZ26m : (Try.prog.info? 26).map (·.size) = some 1 := by kernel_rfl
theorem tZ58m : (Try.prog.info? 58).map (·.size) = some 2 := by kernel_rfl

/-- The error of one run behind another. -/
def errAt (prev : Option Run) (r : Run) : Option Int := if ¬ (0 ≤ r.1 ∧ r.1 < 1048576) ∨ ¬ (0 ≤ r.2 ∧ r.2 < 1048576) then some 2 else if r.2 < r.1 ∨ (∃ q, prev = some q ∧ r.1 ≤ q.2 + 1) then some 8 else none
/-- The first error of a list of runs. -/
def chkFrom : Option Run → List Run → Int
  | _, [] => 0
  | prev, r :: l => match errAt prev r with
    | some e => e
    | none => chkFrom (some r) l
theorem errAt_none {prev : Option Run} {r : Run} (h : errAt prev r = none) : 0 ≤ r.1 ∧ r.1 ≤ r.2 ∧ r.2 < 1048576 ∧ ∀ q, prev = some q → q.2 + 1 < r.1 := by
  unfold errAt at h
  split at h
  · simp at h
  · split at h
    · simp at h
    · rename_i h1 h2
      simp only [not_or, not_exists, not_and] at h2
      refine ⟨by omega, by omega, by omega, fun q hq => by have := h2.2 q hq; omega⟩
theorem chkFrom_wf : ∀ {l : List Run} {prev : Option Run}, chkFrom prev l = 0 → WF l ∧ inB 0 1048575 l ∧ ∀ q, prev = some q → ∀ r ∈ l, q.2 + 1 < r.1
  | [], _, _ => ⟨WF.nil, inB_nil, by simp⟩
  | r :: l, prev, h => by
    unfold chkFrom at h
    cases he : errAt prev r with
    | some e =>
      rw [he] at h
      exfalso; simp only at h; subst h
      unfold errAt at he
      split at he
      · simp at he
      · split at he <;> simp at he
    | none =>
      rw [he] at h
      obtain ⟨h1, h2, h3⟩ := chkFrom_wf h
      obtain ⟨g1, g2, g3, g4⟩ := errAt_none he
      refine ⟨WF.cons_iff.2 ⟨g2, h3 r rfl, h1⟩, fun x hx => ?_, fun q hq x hx => ?_⟩
      · rcases List.mem_cons.1 hx with rfl | hx
        · omega
        · exact h2 x hx
      · rcases List.mem_cons.1 hx with rfl | hx
        · exact g4 q hq
        · have := g4 q hq; have := h3 r rfl x hx; omega
def prevAt (l : List Run) (i : Nat) : Option Run := if i = 0 then none else l[i - 1]?
theorem chk_at {l : List Run} {i : Nat} {r : Run} (h : l[i]? = some r) : chkFrom (prevAt l i) (l.drop i) = match errAt (prevAt l i) r with
    | some e => e
    | none => chkFrom (prevAt l (i + 1)) (l.drop (i + 1)) := by
  obtain ⟨hlt, rfl⟩ := List.getElem?_eq_some_iff.1 h
  rw [List.drop_eq_getElem_cons hlt, chkFrom]
  have : prevAt l (i + 1) = some l[i] := by unfold prevAt; simp [hlt]
  rw [this]
theorem prevAt_ex {l : List Run} {i : Nat} {x : Int} : (∃ q, prevAt l i = some q ∧ x ≤ q.2 + 1) ↔ 0 < (i : Int) ∧ ∃ q, l[i - 1]? = some q ∧ x ≤ q.2 + 1 := by
  unfold prevAt
  split
  · rename_i h; subst h; simp
  · rename_i h; constructor
    · exact fun h' => ⟨by omega, h'⟩
    · exact fun h' => h'.2
theorem prevAt_getD {l : List Run} {i : Nat} {x : Int} (hi : i < l.length) : (0 < (i : Int) ∧ x ≤ (l.getD (i - 1) (0, 0)).2 + 1) ↔ ∃ q, prevAt l i = some q ∧ x ≤ q.2 + 1 := by
  rw [prevAt_ex]
  have h : l[i - 1]? = some (l.getD (i - 1) (0, 0)) := by
    rw [List.getD_eq_getElem?_getD, List.getElem?_eq_getElem (by omega : i - 1 < l.length)]; rfl
  rw [h]
  constructor
  · rintro ⟨h1, h2⟩; exact ⟨h1, _, rfl, h2⟩
  · rintro ⟨h1, q, h2, h3⟩; simp at h2; subst h2; exact ⟨h1, h3⟩
set_option maxHeartbeats 1000000 in
set_option maxRecDepth 100000 in
theorem fromRuns_s {σ : World} {F : List Res} {a : Option Addr} {c : Nat} {l : List Run} (lab : Nat) (h : Sl σ F encRun 2 (.slice a l.length c) l) (hl : l.length ≤ 1099511627776) :
    FnT Try.prog σ F 35 [.slice a l.length c] [] (SetE (fun n => chkFrom none l = 0 ∧ mem l n) (chkFrom none l) lab) := by
  refine fn_of 52 Try.func35 rfl Try.ntmps35 rfl ?_
  have hle := h.i64
  refine w_seq ?_
  refine w_region ?_
  refine wl_op [] rfl rfl rfl rfl (op_alloc (l := 2) tN26m) ?_
  rintro _ _ ⟨b2, rfl, rfl⟩
  refine wl_det rfl rfl rfl (op_assign rfl) ?_
  refine wl_nil ?_
  refine st_tn ?_
  refine w_seq ?_
  refine w_seq ?_
  refine w_region ?_
  refine wl_det rfl rfl rfl (op_move rfl) ?_
  refine wl_det rfl rfl rfl (op_lenT rfl tS24m (Sl.ent (by first | exact Sl.app (by assumption) _ | exact Sl.app (Sl.app (by assumption) _) _))) ?_
  refine wl_det rfl rfl rfl (op_move rfl) ?_
  refine wl_nil ?_
  refine st_tn ?_
  refine w_block ?_
  refine w_loopK (X := Nat) (fun i => i ≤ l.length ∧ chkFrom none l = chkFrom (prevAt l i) (l.drop i) ∧ ∀ r ∈ l.take i, 0 ≤ r.2 ∧ r.2 < 1048576) (fun i => [(8, .int .i64 i)]) (fun _ => []) (fun i => l.length - i) (0) [(0, _), (2, _), (6, _), (7, _)] [(2, _)] (⟨Nat.zero_le _, rfl, by simp⟩) (.cons rfl (.nil _)) (.cons rfl (.cons rfl (.cons rfl (.cons rfl (.nil _))))) [2] rfl (rfl) ?_
  rintro i ⟨hi, hv, hpr⟩
  refine w_norm2 (by dsimp only [List.cons_append, List.nil_append]) (by dsimp only [List.cons_append, List.nil_append]) ?_
  refine w_seq ?_
  refine w_region ?_
  refine wl_det rfl rfl rfl (op_lss rfl rfl) ?_
  refine wl_nil ?_
  refine st_tn ?_
  refine w_seq ?_
  refine w_cond_d rfl (fun hc9 => ?_) (fun hc9 => ?_)
  · -- c9.t
    obtain ⟨r, hr⟩ := getE (l := l) (i := i) (by omega)
    have hlt := ltE hr
    have hstep := chk_at hr
    have hpg := prevAt_getD (l := l) (i := i) (x := r.1) hlt
    refine w_skip ?_
    refine st_tn ?_
    refine w_seq ?_
    refine w_block ?_
    refine w_seq ?_
    refine w_region ?_
    refine wl_det rfl rfl rfl (op_move rfl) ?_
    refine wl_det rfl rfl rfl (op_idx rfl rfl tS24m (Sl.ent (by first | exact Sl.app (by assumption) _ | exact Sl.app (Sl.app (by assumption) _) _)) (by omega)) ?_
    refine wl_det rfl rfl rfl (op_ldxA rfl tA58m (by first | exact Sl.app (by assumption) _ | exact Sl.app (Sl.app (by assumption) _) _) (by assumption) (by rfl) (by rfl)) ?_
    refine wl_op [] rfl rfl rfl rfl (op_alloc (l := 5) tN58m) ?_
    rintro _ _ ⟨b5, rfl, rfl⟩
    refine wl_det rfl rfl rfl (op_assign rfl) ?_
    refine wl_op0 [5] rfl rfl rfl (op_store rfl rfl tZ58m (by rfl) (by rfl) (by exact Nat.le_of_ble_eq_true rfl)) ?_
    rintro _ _ ⟨rfl, rfl⟩
    refine wl_nil ?_
    refine st_tn ?_
    refine w_block ?_
    refine w_seq ?_
    refine w_cutL [(13, .bool (decide (¬ (0 ≤ r.1 ∧ r.1 < 1048576) ∨ ¬ (0 ≤ r.2 ∧ r.2 < 1048576))))] [0, 2, 4, 5, 6, 7, 8] [2, 5] rfl (fun K' hK => ?_) ?_
    · -- cut r4
      refine w_region ?_
      refine wl_det rfl rfl rfl (op_fieldAddr (off := 0) rfl tF58_0m) ?_
      refine wl_det rfl rfl rfl (op_load1 rfl tO3m (Ent.lab (l := 5) rfl (says_cel 0))) ?_
      refine wl_det rfl rfl rfl (op_fn Try.func49 rfl rfl rfl (isRow_any _)) ?_
      refine wl_det rfl rfl rfl (op_not_d rfl) ?_
      refine wl_det rfl rfl rfl (op_move rfl) ?_
      refine wl_gsplit (t := 18) rfl (fun hg18 => ?_) (fun hg18 => ?_)
      · -- 18 is True
        refine wl_unwanted rfl rfl rfl rfl rfl rfl rfl rfl ?_
        refine wl_unwanted rfl rfl rfl rfl rfl rfl rfl rfl ?_
        refine wl_unwanted rfl rfl rfl rfl rfl rfl rfl rfl ?_
        refine wl_unwanted rfl rfl rfl rfl rfl rfl rfl rfl ?_
        refine wl_det rfl rfl rfl (op_pick_t rfl rfl) ?_
        refine wl_det rfl rfl rfl (op_assign rfl) ?_
        refine wl_nil ?_
        refine st_tn ?_
        exact cut_done1 [2, 5] hK rfl (by first | (rw [decide_eq_decide]; omega) | (symm; rw [decide_eq_false_iff_not]; omega) | (symm; rw [decide_eq_true_iff]; omega) | (simp; done) | (simp; omega) | (simp [*]; done) | (simp [*]; omega)) (by rfl) rfl rfl
      · -- 18 is False
        refine wl_wanted_det rfl rfl rfl rfl rfl rfl rfl (op_fieldAddr (off := 1) rfl tF58_1m) ?_
        refine wl_wanted_det rfl rfl rfl rfl rfl rfl rfl (op_load1 rfl tO3m (Ent.lab (l := 5) rfl (says_cel 1))) ?_
        refine wl_wanted_det rfl rfl rfl rfl rfl rfl rfl (op_fn Try.func49 rfl rfl rfl (isRow_any _)) ?_
        refine wl_wanted_det rfl rfl rfl rfl rfl rfl rfl (op_not_d rfl) ?_
        refine wl_det rfl rfl rfl (op_pick_f rfl rfl) ?_
        refine wl_det rfl rfl rfl (op_assign rfl) ?_
        refine wl_nil ?_
        refine st_tn ?_
        exact cut_done1 [2, 5] hK rfl (by first | (rw [decide_eq_decide]; omega) | (symm; rw [decide_eq_false_iff_not]; omega) | (symm; rw [decide_eq_true_iff]; omega) | (simp; done) | (simp; omega) | (simp [*]; done) | (simp [*]; omega)) (by rfl) rfl rfl
    · -- behind r4
      show W _ _ _ _ _ [(13, _), (0, _), (2, _), (4, _), (5, _), (6, _), (7, _), (8, _)] [(2, _), (5, _)] _
      refine w_cond_d rfl (fun hc13 => ?_) (fun hc13 => ?_)
      · -- c13.t
        have herr : errAt (prevAt l i) r = some 2 := by unfold errAt; rw [if_pos hc13]
        refine w_seq ?_
        refine w_emp 99 (slO_nil 58 2) ?_
        refine w_region ?_
        refine wl_det rfl rfl rfl (op_build tB26m rfl rfl) ?_
        refine wl_op0 [2] rfl rfl rfl (op_store rfl rfl tZ26m (by rfl) (by rfl) (by exact Nat.le_of_ble_eq_true rfl)) ?_
        rintro _ _ ⟨rfl, rfl⟩
        refine wl_det rfl rfl rfl (op_assign rfl) ?_
        refine wl_nil ?_
        refine st_tn ?_
        refine w_ret ?_
        refine st_br ?_
        refine st_br ?_
        refine st_tr ?_
        refine st_tr ?_
        refine st_br ?_
        refine st_tr ?_
        refine st_ret (vs := [_, _]) [99] Try.results35 ⟨⟨_, rfl, Ent.mono (Ent.lab (l := 2) rfl (says_cel 0)) (fun _ h => run_load_agg tA26m h (Nat.le_of_ble_eq_true rfl))⟩, ⟨rfl, trivial⟩⟩ rfl ?_
        refine ⟨[(lab, _)], rfl, ?_⟩
        have he : chkFrom none l = 2 := by rw [hv, hstep, herr]
        rw [he]
        exact ⟨[], none, 0, WF.nil, inB_nil, fun n => ⟨fun h => absurd h (mem_nil n), fun h => absurd h.1 (by omega)⟩, rfl, rfl⟩
      · -- c13.f
        refine w_seq ?_
        refine w_cutL [(25, .bool (decide (r.2 < r.1 ∨ (0 < (i : Int) ∧ r.1 ≤ (l.getD (i - 1) (0, 0)).2 + 1))))] [0, 2, 6, 7, 8] [2, 5] rfl (fun K' hK => ?_) ?_
        · -- cut r6
          by_cases h5 : r.2 < r.1
          · -- h5 True
            refine w_draw (D := [⟨26, [], [], [], _, false, [], []⟩, ⟨27, [0], [], [], _, false, [], []⟩, ⟨28, [], [], [], _, false, [], []⟩, ⟨29, [2], [], [], _, false, [], []⟩, ⟨30, [1, 3], [], [], _, false, [], []⟩, ⟨31, [4], [], [], _, false, [], []⟩, ⟨32, [], [], [], Det undef, false, [], []⟩, ⟨33, [], [], [], Det undef, false, [], []⟩, ⟨34, [], [], [], Det undef, false, [], []⟩, ⟨35, [], [], [], Det undef, false, [], []⟩, ⟨36, [], [], [], Det undef, false, [], []⟩, ⟨37, [], [], [], Det undef, false, [], []⟩, ⟨38, [], [], [], Det undef, false, [], []⟩, ⟨39, [], [], [], Det undef, false, [], []⟩, ⟨40, [], [], [], Det undef, false, [], []⟩, ⟨41, [], [], [], Det undef, false, [], []⟩, ⟨42, [], [], [], Det undef, false, [], []⟩, ⟨43, [], [], [], Det undef, false, [], []⟩, ⟨44, [], [], [], Det undef, false, [], []⟩, ⟨45, [], [], [], Det undef, false, [], []⟩, ⟨46, [5, 19], [], [], _, false, [], []⟩, ⟨25, [20], [], [], _, false, [], []⟩]) [] [5, 4, 0] [⟨26, [], [], false, [], []⟩, ⟨27, [0], [], false, [], []⟩, ⟨28, [], [], false, [], []⟩, ⟨29, [2], [], false, [], []⟩, ⟨30, [1, 3], [], false, [], []⟩, ⟨31, [4], [], false, [], []⟩, ⟨32, [], [], false, [], []⟩, ⟨33, [], [], false, [], []⟩, ⟨34, [], [], false, [], []⟩, ⟨35, [], [], false, [], []⟩, ⟨36, [], [], false, [], []⟩, ⟨37, [], [], false, [], []⟩, ⟨38, [], [], false, [], []⟩, ⟨39, [], [], false, [], []⟩, ⟨40, [], [], false, [], []⟩, ⟨41, [], [], false, [], []⟩, ⟨42, [], [], false, [], []⟩, ⟨43, [], [], false, [], []⟩, ⟨44, [], [], false, [], []⟩, ⟨45, [], [], false, [], []⟩, ⟨46, [5, 19], [], false, [], []⟩, ⟨25, [20], [], false, [], []⟩] tMixm (by rfl) (by kernel_rfl) (by rfl) (by rfl)
                ⟨.plain rfl (by intro X; exact op_fieldAddr (off := 1) rfl tF58_1m),
                ⟨.plain rfl (by intro X; rintro _ _ ⟨rfl, rfl⟩; exact op_load1 rfl tO3m (Ent.lab (l := 5) rfl (says_cel 1))),
                ⟨.plain rfl (by intro X; exact op_fieldAddr (off := 0) rfl tF58_0m),
                ⟨.plain rfl (by intro X; rintro _ _ ⟨rfl, rfl⟩; exact op_load1 rfl tO3m (Ent.lab (l := 5) rfl (says_cel 0))),
                ⟨.plain rfl (by intro X; rintro _ _ ⟨rfl, rfl⟩ _ _ ⟨rfl, rfl⟩; exact op_lss rfl rfl),
                ⟨.plain rfl (by intro X; rintro _ _ ⟨rfl, rfl⟩; exact op_move rfl),
                ⟨.unwanted rfl rfl rfl (by rintro _ _ ⟨rfl, rfl⟩; exact congrArg (offB false) (by first | rfl | (exact congrArg Value.bool (decide_eq_true (by omega))) | (exact congrArg Value.bool (decide_eq_false (by omega))) | (simp; done) | (simp; omega) | (simp [*]; done) : _ = Value.bool true)) ⟨rfl, rfl⟩ rfl rfl,
                ⟨.unwanted rfl rfl rfl (by rintro _ _ ⟨rfl, rfl⟩; exact congrArg (offB false) (by first | rfl | (exact congrArg Value.bool (decide_eq_true (by omega))) | (exact congrArg Value.bool (decide_eq_false (by omega))) | (simp; done) | (simp; omega) | (simp [*]; done) : _ = Value.bool true)) ⟨rfl, rfl⟩ rfl rfl,
                ⟨.unwanted rfl rfl rfl (by rintro _ _ ⟨rfl, rfl⟩; exact congrArg (offB false) (by first | rfl | (exact congrArg Value.bool (decide_eq_true (by omega))) | (exact congrArg Value.bool (decide_eq_false (by omega))) | (simp; done) | (simp; omega) | (simp [*]; done) : _ = Value.bool true)) ⟨rfl, rfl⟩ rfl rfl,
                ⟨.unwanted rfl rfl rfl (by rintro _ _ ⟨rfl, rfl⟩; rfl) ⟨rfl, rfl⟩ rfl rfl,
                ⟨.unwanted rfl rfl rfl (by rintro _ _ ⟨rfl, rfl⟩; rfl) ⟨rfl, rfl⟩ rfl rfl,
                ⟨.unwanted rfl rfl rfl (by rintro _ _ ⟨rfl, rfl⟩; rfl) ⟨rfl, rfl⟩ rfl rfl,
                ⟨.unwanted rfl rfl rfl (by rintro _ _ ⟨rfl, rfl⟩; rfl) ⟨rfl, rfl⟩ rfl rfl,
                ⟨.unwanted rfl rfl rfl (by rintro _ _ ⟨rfl, rfl⟩; rfl) ⟨rfl, rfl⟩ rfl rfl,
                ⟨.unwanted rfl rfl rfl (by rintro _ _ ⟨rfl, rfl⟩; rfl) ⟨rfl, rfl⟩ rfl rfl,
                ⟨.unwanted rfl rfl rfl (by rintro _ _ ⟨rfl, rfl⟩; rfl) ⟨rfl, rfl⟩ rfl rfl,
                ⟨.unwanted rfl rfl rfl (by rintro _ _ ⟨rfl, rfl⟩; rfl) ⟨rfl, rfl⟩ rfl rfl,
                ⟨.unwanted rfl rfl rfl (by rintro _ _ ⟨rfl, rfl⟩; rfl) ⟨rfl, rfl⟩ rfl rfl,
                ⟨.unwanted rfl rfl rfl (by rintro _ _ ⟨rfl, rfl⟩; rfl) ⟨rfl, rfl⟩ rfl rfl,
                ⟨.unwanted rfl rfl rfl (by rintro _ _ ⟨rfl, rfl⟩; exact congrArg (offB false) (by first | rfl | (exact congrArg Value.bool (decide_eq_true (by omega))) | (exact congrArg Value.bool (decide_eq_false (by omega))) | (simp; done) | (simp; omega) | (simp [*]; done) : _ = Value.bool true)) ⟨rfl, rfl⟩ rfl rfl,
                ⟨.plain rfl (by intro X; rintro _ _ ⟨rfl, rfl⟩ _ _ ⟨rfl, rfl⟩; exact op_pick_t (by first | rfl | (show some (Value.bool (decide _)) = _; rw [decide_eq_true (by omega)]) | (show some (Value.bool (decide _)) = _; rw [decide_eq_false (by omega)]) | (simp [ev, lk]; done) | (simp [ev, lk]; omega) | (simp [ev, lk, *]; done)) rfl),
                ⟨.plain rfl (by intro X; rintro _ _ ⟨rfl, rfl⟩; exact op_assign rfl),
                trivial⟩⟩⟩⟩⟩⟩⟩⟩⟩⟩⟩⟩⟩⟩⟩⟩⟩⟩⟩⟩⟩⟩ ?_
            rintro _ _ ⟨rfl, rfl⟩ _ _ ⟨rfl, rfl⟩ _ _ ⟨rfl, rfl⟩ _ _ ⟨rfl, rfl⟩ _ _ ⟨rfl, rfl⟩ _ _ ⟨rfl, rfl⟩ _ _ ⟨rfl, rfl⟩ _ _ ⟨rfl, rfl⟩ _ _ ⟨rfl, rfl⟩ _ _ ⟨rfl, rfl⟩ _ _ ⟨rfl, rfl⟩ _ _ ⟨rfl, rfl⟩ _ _ ⟨rfl, rfl⟩ _ _ ⟨rfl, rfl⟩ _ _ ⟨rfl, rfl⟩ _ _ ⟨rfl, rfl⟩ _ _ ⟨rfl, rfl⟩ _ _ ⟨rfl, rfl⟩ _ _ ⟨rfl, rfl⟩ _ _ ⟨rfl, rfl⟩ _ _ ⟨rfl, rfl⟩ _ _ ⟨rfl, rfl⟩
            refine wl_norm (e' := [(0, _), (2, _), (6, _), (7, _), (8, _), (25, _)]) (.cons rfl (.cons rfl (.cons rfl (.cons rfl (.cons rfl (.cons rfl (.nil _))))))) (by dsimp only [cond_false, cond_true, List.nil_append, List.cons_append]) ?_
            refine wl_nil ?_
            refine st_tn ?_
            exact cut_done1 [2, 5] hK rfl (by first | (rw [decide_eq_decide]; omega) | (symm; rw [decide_eq_false_iff_not]; omega) | (symm; rw [decide_eq_true_iff]; omega) | (simp; done) | (simp; omega) | (simp [*]; done) | (simp [*]; omega)) (by rfl) rfl rfl
          · -- h5 False
            by_cases h8 : (0 : Int) < (i : Int)
            · -- h8 True
              obtain ⟨q, hq⟩ := getE (l := l) (i := i - 1) (by omega)
              have hq' : l[((i : Int) - 1).toNat]? = some q := by rw [show ((i : Int) - 1).toNat = i - 1 by omega]; exact hq
              have hgd : l.getD (i - 1) (0, 0) = q := by rw [List.getD_eq_getElem?_getD, hq]; rfl
              have hqb := hpr q (by rw [List.mem_iff_getElem?]; exact ⟨i - 1, by rw [List.getElem?_take]; simp; exact ⟨by omega, hq⟩⟩)
              refine w_draw (D := [⟨26, [], [], [], _, false, [], []⟩, ⟨27, [0], [], [], _, false, [], []⟩, ⟨28, [], [], [], _, false, [], []⟩, ⟨29, [2], [], [], _, false, [], []⟩, ⟨30, [1, 3], [], [], _, false, [], []⟩, ⟨31, [4], [], [], _, false, [], []⟩, ⟨32, [], [], [], _, false, [], []⟩, ⟨33, [6], [], [], _, false, [], []⟩, ⟨34, [7], [], [], _, false, [], []⟩, ⟨35, [], [], [], _, false, [], []⟩, ⟨36, [9], [], [], _, false, [], []⟩, ⟨37, [], [], [], _, false, [], []⟩, ⟨38, [], [], [], _, false, [], []⟩, ⟨39, [12], [], [], _, false, [], []⟩, ⟨40, [11, 13], [], [], _, false, [], []⟩, ⟨41, [14], [], [], _, false, [], []⟩, ⟨42, [15], [], [], _, false, [], []⟩, ⟨43, [16], [], [], _, false, [], []⟩, ⟨44, [10, 17], [], [], _, false, [], []⟩, ⟨45, [8, 18], [], [], _, false, [], []⟩, ⟨46, [5, 19], [], [], _, false, [], []⟩, ⟨25, [20], [], [], _, false, [], []⟩]) [] [5, 4, 0] [⟨26, [], [], false, [], []⟩, ⟨27, [0], [], false, [], []⟩, ⟨28, [], [], false, [], []⟩, ⟨29, [2], [], false, [], []⟩, ⟨30, [1, 3], [], false, [], []⟩, ⟨31, [4], [], false, [], []⟩, ⟨32, [], [], false, [], []⟩, ⟨33, [6], [], false, [], []⟩, ⟨34, [7], [], false, [], []⟩, ⟨35, [], [], false, [], []⟩, ⟨36, [9], [], false, [], []⟩, ⟨37, [], [], false, [], []⟩, ⟨38, [], [], false, [], []⟩, ⟨39, [12], [], false, [], []⟩, ⟨40, [11, 13], [], false, [], []⟩, ⟨41, [14], [], false, [], []⟩, ⟨42, [15], [], false, [], []⟩, ⟨43, [16], [], false, [], []⟩, ⟨44, [10, 17], [], false, [], []⟩, ⟨45, [8, 18], [], false, [], []⟩, ⟨46, [5, 19], [], false, [], []⟩, ⟨25, [20], [], false, [], []⟩] tMixm (by rfl) (by kernel_rfl) (by rfl) (by rfl)
                  ⟨.plain rfl (by intro X; exact op_fieldAddr (off := 1) rfl tF58_1m),
                  ⟨.plain rfl (by intro X; rintro _ _ ⟨rfl, rfl⟩; exact op_load1 rfl tO3m (Ent.lab (l := 5) rfl (says_cel 1))),
                  ⟨.plain rfl (by intro X; exact op_fieldAddr (off := 0) rfl tF58_0m),
                  ⟨.plain rfl (by intro X; rintro _ _ ⟨rfl, rfl⟩; exact op_load1 rfl tO3m (Ent.lab (l := 5) rfl (says_cel 0))),
                  ⟨.plain rfl (by intro X; rintro _ _ ⟨rfl, rfl⟩ _ _ ⟨rfl, rfl⟩; exact op_lss rfl rfl),
                  ⟨.plain rfl (by intro X; rintro _ _ ⟨rfl, rfl⟩; exact op_move rfl),
                  ⟨.wanted rfl rfl rfl (by rintro _ _ ⟨rfl, rfl⟩; first | rfl | (exact congrArg Value.bool (decide_eq_true (by omega))) | (exact congrArg Value.bool (decide_eq_false (by omega))) | (simp; done) | (simp; omega) | (simp [*]; done)) (by intro X; exact op_move rfl),
                  ⟨.wanted rfl rfl rfl (by rintro _ _ ⟨rfl, rfl⟩; first | rfl | (exact congrArg Value.bool (decide_eq_true (by omega))) | (exact congrArg Value.bool (decide_eq_false (by omega))) | (simp; done) | (simp; omega) | (simp [*]; done)) (by intro X; rintro _ _ ⟨rfl, rfl⟩; exact op_gtr rfl rfl),
                  ⟨.wanted rfl rfl rfl (by rintro _ _ ⟨rfl, rfl⟩; first | rfl | (exact congrArg Value.bool (decide_eq_true (by omega))) | (exact congrArg Value.bool (decide_eq_false (by omega))) | (simp; done) | (simp; omega) | (simp [*]; done)) (by intro X; rintro _ _ ⟨rfl, rfl⟩; exact op_move rfl),
                  ⟨.wanted rfl rfl rfl (by rintro _ _ ⟨rfl, rfl⟩; first | rfl | (exact congrArg Value.bool (decide_eq_true (by omega))) | (exact congrArg Value.bool (decide_eq_false (by omega))) | (simp; done) | (simp; omega) | (simp [*]; done)) (by intro X; exact op_fieldAddr (off := 0) rfl tF58_0m),
                  ⟨.wanted rfl rfl rfl (by rintro _ _ ⟨rfl, rfl⟩; first | rfl | (exact congrArg Value.bool (decide_eq_true (by omega))) | (exact congrArg Value.bool (decide_eq_false (by omega))) | (simp; done) | (simp; omega) | (simp [*]; done)) (by intro X; rintro _ _ ⟨rfl, rfl⟩; exact op_load1 rfl tO3m (Ent.lab (l := 5) rfl (says_cel 0))),
                  ⟨.wanted rfl rfl rfl (by rintro _ _ ⟨rfl, rfl⟩; first | rfl | (exact congrArg Value.bool (decide_eq_true (by omega))) | (exact congrArg Value.bool (decide_eq_false (by omega))) | (simp; done) | (simp; omega) | (simp [*]; done)) (by intro X; exact op_move rfl),
                  ⟨.wanted rfl rfl rfl (by rintro _ _ ⟨rfl, rfl⟩; first | rfl | (exact congrArg Value.bool (decide_eq_true (by omega))) | (exact congrArg Value.bool (decide_eq_false (by omega))) | (simp; done) | (simp; omega) | (simp [*]; done)) (by intro X; exact op_move rfl),
                  ⟨.wanted rfl rfl rfl (by rintro _ _ ⟨rfl, rfl⟩; first | rfl | (exact congrArg Value.bool (decide_eq_true (by omega))) | (exact congrArg Value.bool (decide_eq_false (by omega))) | (simp; done) | (simp; omega) | (simp [*]; done)) (by intro X; rintro _ _ ⟨rfl, rfl⟩; exact op_sub' rfl rfl (by omega)),
                  ⟨.wanted rfl rfl rfl (by rintro _ _ ⟨rfl, rfl⟩; first | rfl | (exact congrArg Value.bool (decide_eq_true (by omega))) | (exact congrArg Value.bool (decide_eq_false (by omega))) | (simp; done) | (simp; omega) | (simp [*]; done)) (by intro X; rintro _ _ ⟨rfl, rfl⟩ _ _ ⟨rfl, rfl⟩; exact op_idxZ rfl rfl tS24m (Sl.ent (by first | exact Sl.app (by assumption) _ | exact Sl.app (Sl.app (by assumption) _) _)) (by omega) (by omega)),
                  ⟨.wanted rfl rfl rfl (by rintro _ _ ⟨rfl, rfl⟩; first | rfl | (exact congrArg Value.bool (decide_eq_true (by omega))) | (exact congrArg Value.bool (decide_eq_false (by omega))) | (simp; done) | (simp; omega) | (simp [*]; done)) (by intro X; rintro _ _ ⟨rfl, rfl⟩; exact op_fieldAddr (off := 1) rfl tF58_1m),
                  ⟨.wanted rfl rfl rfl (by rintro _ _ ⟨rfl, rfl⟩; first | rfl | (exact congrArg Value.bool (decide_eq_true (by omega))) | (exact congrArg Value.bool (decide_eq_false (by omega))) | (simp; done) | (simp; omega) | (simp [*]; done)) (by intro X; rintro _ _ ⟨rfl, rfl⟩; exact op_ldxf rfl tO3m (by first | exact Sl.app (by assumption) _ | exact Sl.app (Sl.app (by assumption) _) _) (by assumption) (by rfl)),
                  ⟨.wanted rfl rfl rfl (by rintro _ _ ⟨rfl, rfl⟩; first | rfl | (exact congrArg Value.bool (decide_eq_true (by omega))) | (exact congrArg Value.bool (decide_eq_false (by omega))) | (simp; done) | (simp; omega) | (simp [*]; done)) (by intro X; rintro _ _ ⟨rfl, rfl⟩; exact op_add' rfl rfl (by omega)),
                  ⟨.wanted rfl rfl rfl (by rintro _ _ ⟨rfl, rfl⟩; first | rfl | (exact congrArg Value.bool (decide_eq_true (by omega))) | (exact congrArg Value.bool (decide_eq_false (by omega))) | (simp; done) | (simp; omega) | (simp [*]; done)) (by intro X; rintro _ _ ⟨rfl, rfl⟩ _ _ ⟨rfl, rfl⟩; exact op_leq rfl rfl),
                  ⟨.wanted rfl rfl rfl (by rintro _ _ ⟨rfl, rfl⟩; first | rfl | (exact congrArg Value.bool (decide_eq_true (by omega))) | (exact congrArg Value.bool (decide_eq_false (by omega))) | (simp; done) | (simp; omega) | (simp [*]; done)) (by intro X; rintro _ _ ⟨rfl, rfl⟩ _ _ ⟨rfl, rfl⟩; exact op_pick_t (by first | rfl | (show some (Value.bool (decide _)) = _; rw [decide_eq_true (by omega)]) | (show some (Value.bool (decide _)) = _; rw [decide_eq_false (by omega)]) | (simp [ev, lk]; done) | (simp [ev, lk]; omega) | (simp [ev, lk, *]; done)) rfl),
                  ⟨.plain rfl (by intro X; rintro _ _ ⟨rfl, rfl⟩ _ _ ⟨rfl, rfl⟩; exact op_pick_f (by first | rfl | (show some (Value.bool (decide _)) = _; rw [decide_eq_true (by omega)]) | (show some (Value.bool (decide _)) = _; rw [decide_eq_false (by omega)]) | (simp [ev, lk]; done) | (simp [ev, lk]; omega) | (simp [ev, lk, *]; done)) rfl),
                  ⟨.plain rfl (by intro X; rintro _ _ ⟨rfl, rfl⟩; exact op_assign rfl),
                  trivial⟩⟩⟩⟩⟩⟩⟩⟩⟩⟩⟩⟩⟩⟩⟩⟩⟩⟩⟩⟩⟩⟩ ?_
              rintro _ _ ⟨rfl, rfl⟩ _ _ ⟨rfl, rfl⟩ _ _ ⟨rfl, rfl⟩ _ _ ⟨rfl, rfl⟩ _ _ ⟨rfl, rfl⟩ _ _ ⟨rfl, rfl⟩ _ _ ⟨rfl, rfl⟩ _ _ ⟨rfl, rfl⟩ _ _ ⟨rfl, rfl⟩ _ _ ⟨rfl, rfl⟩ _ _ ⟨rfl, rfl⟩ _ _ ⟨rfl, rfl⟩ _ _ ⟨rfl, rfl⟩ _ _ ⟨rfl, rfl⟩ _ _ ⟨rfl, rfl⟩ _ _ ⟨rfl, rfl⟩ _ _ ⟨rfl, rfl⟩ _ _ ⟨rfl, rfl⟩ _ _ ⟨rfl, rfl⟩ _ _ ⟨rfl, rfl⟩ _ _ ⟨rfl, rfl⟩ _ _ ⟨rfl, rfl⟩
              refine wl_norm (e' := [(0, _), (2, _), (6, _), (7, _), (8, _), (25, _)]) (.cons rfl (.cons rfl (.cons rfl (.cons rfl (.cons rfl (.cons rfl (.nil _))))))) (by dsimp only [cond_false, cond_true, List.nil_append, List.cons_append]) ?_
              refine wl_nil ?_
              refine st_tn ?_
              exact cut_done1 [2, 5] hK rfl (by first | (rw [decide_eq_decide]; omega) | (symm; rw [decide_eq_false_iff_not]; omega) | (symm; rw [decide_eq_true_iff]; omega) | (simp; done) | (simp; omega) | (simp [*]; done) | (simp [*]; omega)) (by rfl) rfl rfl
            · -- h8 False
              refine w_draw (D := [⟨26, [], [], [], _, false, [], []⟩, ⟨27, [0], [], [], _, false, [], []⟩, ⟨28, [], [], [], _, false, [], []⟩, ⟨29, [2], [], [], _, false, [], []⟩, ⟨30, [1, 3], [], [], _, false, [], []⟩, ⟨31, [4], [], [], _, false, [], []⟩, ⟨32, [], [], [], _, false, [], []⟩, ⟨33, [6], [], [], _, false, [], []⟩, ⟨34, [7], [], [], _, false, [], []⟩, ⟨35, [], [], [], Det undef, false, [], []⟩, ⟨36, [], [], [], Det undef, false, [], []⟩, ⟨37, [], [], [], Det undef, false, [], []⟩, ⟨38, [], [], [], Det undef, false, [], []⟩, ⟨39, [], [], [], Det undef, false, [], []⟩, ⟨40, [], [], [], Det undef, false, [], []⟩, ⟨41, [], [], [], Det undef, false, [], []⟩, ⟨42, [], [], [], Det undef, false, [], []⟩, ⟨43, [], [], [], Det undef, false, [], []⟩, ⟨44, [], [], [], Det undef, false, [], []⟩, ⟨45, [8, 18], [], [], _, false, [], []⟩, ⟨46, [5, 19], [], [], _, false, [], []⟩, ⟨25, [20], [], [], _, false, [], []⟩]) [] [5, 4, 0] [⟨26, [], [], false, [], []⟩, ⟨27, [0], [], false, [], []⟩, ⟨28, [], [], false, [], []⟩, ⟨29, [2], [], false, [], []⟩, ⟨30, [1, 3], [], false, [], []⟩, ⟨31, [4], [], false, [], []⟩, ⟨32, [], [], false, [], []⟩, ⟨33, [6], [], false, [], []⟩, ⟨34, [7], [], false, [], []⟩, ⟨35, [], [], false, [], []⟩, ⟨36, [], [], false, [], []⟩, ⟨37, [], [], false, [], []⟩, ⟨38, [], [], false, [], []⟩, ⟨39, [], [], false, [], []⟩, ⟨40, [], [], false, [], []⟩, ⟨41, [], [], false, [], []⟩, ⟨42, [], [], false, [], []⟩, ⟨43, [], [], false, [], []⟩, ⟨44, [], [], false, [], []⟩, ⟨45, [8, 18], [], false, [], []⟩, ⟨46, [5, 19], [], false, [], []⟩, ⟨25, [20], [], false, [], []⟩] tMixm (by rfl) (by kernel_rfl) (by rfl) (by rfl)
                  ⟨.plain rfl (by intro X; exact op_fieldAddr (off := 1) rfl tF58_1m),
                  ⟨.plain rfl (by intro X; rintro _ _ ⟨rfl, rfl⟩; exact op_load1 rfl tO3m (Ent.lab (l := 5) rfl (says_cel 1))),
                  ⟨.plain rfl (by intro X; exact op_fieldAddr (off := 0) rfl tF58_0m),
                  ⟨.plain rfl (by intro X; rintro _ _ ⟨rfl, rfl⟩; exact op_load1 rfl tO3m (Ent.lab (l := 5) rfl (says_cel 0))),
                  ⟨.plain rfl (by intro X; rintro _ _ ⟨rfl, rfl⟩ _ _ ⟨rfl, rfl⟩; exact op_lss rfl rfl),
                  ⟨.plain rfl (by intro X; rintro _ _ ⟨rfl, rfl⟩; exact op_move rfl),
                  ⟨.wanted rfl rfl rfl (by rintro _ _ ⟨rfl, rfl⟩; first | rfl | (exact congrArg Value.bool (decide_eq_true (by omega))) | (exact congrArg Value.bool (decide_eq_false (by omega))) | (simp; done) | (simp; omega) | (simp [*]; done)) (by intro X; exact op_move rfl),
                  ⟨.wanted rfl rfl rfl (by rintro _ _ ⟨rfl, rfl⟩; first | rfl | (exact congrArg Value.bool (decide_eq_true (by omega))) | (exact congrArg Value.bool (decide_eq_false (by omega))) | (simp; done) | (simp; omega) | (simp [*]; done)) (by intro X; rintro _ _ ⟨rfl, rfl⟩; exact op_gtr rfl rfl),
                  ⟨.wanted rfl rfl rfl (by rintro _ _ ⟨rfl, rfl⟩; first | rfl | (exact congrArg Value.bool (decide_eq_true (by omega))) | (exact congrArg Value.bool (decide_eq_false (by omega))) | (simp; done) | (simp; omega) | (simp [*]; done)) (by intro X; rintro _ _ ⟨rfl, rfl⟩; exact op_move rfl),
                  ⟨.unwanted rfl rfl rfl (by rintro _ _ ⟨rfl, rfl⟩; exact congrArg (offB true) (by first | rfl | (exact congrArg Value.bool (decide_eq_true (by omega))) | (exact congrArg Value.bool (decide_eq_false (by omega))) | (simp; done) | (simp; omega) | (simp [*]; done) : _ = Value.bool false)) ⟨rfl, rfl⟩ rfl rfl,
                  ⟨.unwanted rfl rfl rfl (by rintro _ _ ⟨rfl, rfl⟩; exact congrArg (offB true) (by first | rfl | (exact congrArg Value.bool (decide_eq_true (by omega))) | (exact congrArg Value.bool (decide_eq_false (by omega))) | (simp; done) | (simp; omega) | (simp [*]; done) : _ = Value.bool false)) ⟨rfl, rfl⟩ rfl rfl,
                  ⟨.unwanted rfl rfl rfl (by rintro _ _ ⟨rfl, rfl⟩; exact congrArg (offB true) (by first | rfl | (exact congrArg Value.bool (decide_eq_true (by omega))) | (exact congrArg Value.bool (decide_eq_false (by omega))) | (simp; done) | (simp; omega) | (simp [*]; done) : _ = Value.bool false)) ⟨rfl, rfl⟩ rfl rfl,
                  ⟨.unwanted rfl rfl rfl (by rintro _ _ ⟨rfl, rfl⟩; exact congrArg (offB true) (by first | rfl | (exact congrArg Value.bool (decide_eq_true (by omega))) | (exact congrArg Value.bool (decide_eq_false (by omega))) | (simp; done) | (simp; omega) | (simp [*]; done) : _ = Value.bool false)) ⟨rfl, rfl⟩ rfl rfl,
                  ⟨.unwanted rfl rfl rfl (by rintro _ _ ⟨rfl, rfl⟩; exact congrArg (offB true) (by first | rfl | (exact congrArg Value.bool (decide_eq_true (by omega))) | (exact congrArg Value.bool (decide_eq_false (by omega))) | (simp; done) | (simp; omega) | (simp [*]; done) : _ = Value.bool false)) ⟨rfl, rfl⟩ rfl rfl,
                  ⟨.unwanted rfl rfl rfl (by rintro _ _ ⟨rfl, rfl⟩; exact congrArg (offB true) (by first | rfl | (exact congrArg Value.bool (decide_eq_true (by omega))) | (exact congrArg Value.bool (decide_eq_false (by omega))) | (simp; done) | (simp; omega) | (simp [*]; done) : _ = Value.bool false)) ⟨rfl, rfl⟩ rfl rfl,
                  ⟨.unwanted rfl rfl rfl (by rintro _ _ ⟨rfl, rfl⟩; exact congrArg (offB true) (by first | rfl | (exact congrArg Value.bool (decide_eq_true (by omega))) | (exact congrArg Value.bool (decide_eq_false (by omega))) | (simp; done) | (simp; omega) | (simp [*]; done) : _ = Value.bool false)) ⟨rfl, rfl⟩ rfl rfl,
                  ⟨.unwanted rfl rfl rfl (by rintro _ _ ⟨rfl, rfl⟩; exact congrArg (offB true) (by first | rfl | (exact congrArg Value.bool (decide_eq_true (by omega))) | (exact congrArg Value.bool (decide_eq_false (by omega))) | (simp; done) | (simp; omega) | (simp [*]; done) : _ = Value.bool false)) ⟨rfl, rfl⟩ rfl rfl,
                  ⟨.unwanted rfl rfl rfl (by rintro _ _ ⟨rfl, rfl⟩; exact congrArg (offB true) (by first | rfl | (exact congrArg Value.bool (decide_eq_true (by omega))) | (exact congrArg Value.bool (decide_eq_false (by omega))) | (simp; done) | (simp; omega) | (simp [*]; done) : _ = Value.bool false)) ⟨rfl, rfl⟩ rfl rfl,
                  ⟨.unwanted rfl rfl rfl (by rintro _ _ ⟨rfl, rfl⟩; exact congrArg (offB true) (by first | rfl | (exact congrArg Value.bool (decide_eq_true (by omega))) | (exact congrArg Value.bool (decide_eq_false (by omega))) | (simp; done) | (simp; omega) | (simp [*]; done) : _ = Value.bool false)) ⟨rfl, rfl⟩ rfl rfl,
                  ⟨.wanted rfl rfl rfl (by rintro _ _ ⟨rfl, rfl⟩; first | rfl | (exact congrArg Value.bool (decide_eq_true (by omega))) | (exact congrArg Value.bool (decide_eq_false (by omega))) | (simp; done) | (simp; omega) | (simp [*]; done)) (by intro X; rintro _ _ ⟨rfl, rfl⟩ _ _ ⟨rfl, rfl⟩; exact op_pick_f (by first | rfl | (show some (Value.bool (decide _)) = _; rw [decide_eq_true (by omega)]) | (show some (Value.bool (decide _)) = _; rw [decide_eq_false (by omega)]) | (simp [ev, lk]; done) | (simp [ev, lk]; omega) | (simp [ev, lk, *]; done)) rfl),
                  ⟨.plain rfl (by intro X; rintro _ _ ⟨rfl, rfl⟩ _ _ ⟨rfl, rfl⟩; exact op_pick_f (by first | rfl | (show some (Value.bool (decide _)) = _; rw [decide_eq_true (by omega)]) | (show some (Value.bool (decide _)) = _; rw [decide_eq_false (by omega)]) | (simp [ev, lk]; done) | (simp [ev, lk]; omega) | (simp [ev, lk, *]; done)) rfl),
                  ⟨.plain rfl (by intro X; rintro _ _ ⟨rfl, rfl⟩; exact op_assign rfl),
                  trivial⟩⟩⟩⟩⟩⟩⟩⟩⟩⟩⟩⟩⟩⟩⟩⟩⟩⟩⟩⟩⟩⟩ ?_
              rintro _ _ ⟨rfl, rfl⟩ _ _ ⟨rfl, rfl⟩ _ _ ⟨rfl, rfl⟩ _ _ ⟨rfl, rfl⟩ _ _ ⟨rfl, rfl⟩ _ _ ⟨rfl, rfl⟩ _ _ ⟨rfl, rfl⟩ _ _ ⟨rfl, rfl⟩ _ _ ⟨rfl, rfl⟩ _ _ ⟨rfl, rfl⟩ _ _ ⟨rfl, rfl⟩ _ _ ⟨rfl, rfl⟩ _ _ ⟨rfl, rfl⟩ _ _ ⟨rfl, rfl⟩ _ _ ⟨rfl, rfl⟩ _ _ ⟨rfl, rfl⟩ _ _ ⟨rfl, rfl⟩ _ _ ⟨rfl, rfl⟩ _ _ ⟨rfl, rfl⟩ _ _ ⟨rfl, rfl⟩ _ _ ⟨rfl, rfl⟩ _ _ ⟨rfl, rfl⟩
              refine wl_norm (e' := [(0, _), (2, _), (6, _), (7, _), (8, _), (25, _)]) (.cons rfl (.cons rfl (.cons rfl (.cons rfl (.cons rfl (.cons rfl (.nil _))))))) (by dsimp only [cond_false, cond_true, List.nil_append, List.cons_append]) ?_
              refine wl_nil ?_
              refine st_tn ?_
              exact cut_done1 [2, 5] hK rfl (by first | (rw [decide_eq_decide]; omega) | (symm; rw [decide_eq_false_iff_not]; omega) | (symm; rw [decide_eq_true_iff]; omega) | (simp; done) | (simp; omega) | (simp [*]; done) | (simp [*]; omega)) (by rfl) rfl rfl
        · -- behind r6
          show W _ _ _ _ _ [(25, _), (0, _), (2, _), (6, _), (7, _), (8, _)] [(2, _), (5, _)] _
          refine w_cond_d rfl (fun hc25 => ?_) (fun hc25 => ?_)
          · -- c25.t
            have herr : errAt (prevAt l i) r = some 8 := by unfold errAt; rw [if_neg hc13, if_pos (by rw [← hpg]; exact hc25)]
            refine w_seq ?_
            refine w_emp 99 (slO_nil 58 2) ?_
            refine w_region ?_
            refine wl_det rfl rfl rfl (op_build tB26m rfl rfl) ?_
            refine wl_op0 [2] rfl rfl rfl (op_store rfl rfl tZ26m (by rfl) (by rfl) (by exact Nat.le_of_ble_eq_true rfl)) ?_
            rintro _ _ ⟨rfl, rfl⟩
            refine wl_det rfl rfl rfl (op_assign rfl) ?_
            refine wl_nil ?_
            refine st_tn ?_
            refine w_ret ?_
            refine st_br ?_
            refine st_br ?_
            refine st_tr ?_
            refine st_tr ?_
            refine st_br ?_
            refine st_tr ?_
            refine st_ret (vs := [_, _]) [99] Try.results35 ⟨⟨_, rfl, Ent.mono (Ent.lab (l := 2) rfl (says_cel 0)) (fun _ h => run_load_agg tA26m h (Nat.le_of_ble_eq_true rfl))⟩, ⟨rfl, trivial⟩⟩ rfl ?_
            refine ⟨[(lab, _)], rfl, ?_⟩
            have he : chkFrom none l = 8 := by rw [hv, hstep, herr]
            rw [he]
            exact ⟨[], none, 0, WF.nil, inB_nil, fun n => ⟨fun h => absurd h (mem_nil n), fun h => absurd h.1 (by omega)⟩, rfl, rfl⟩
          · -- c25.f
            have herr : errAt (prevAt l i) r = none := by unfold errAt; rw [if_neg hc13, if_neg (by rw [← hpg]; exact hc25)]
            refine w_skip ?_
            refine st_bn ?_
            refine st_bn ?_
            refine st_tn ?_
            refine w_region ?_
            refine wl_det rfl rfl rfl (op_add' rfl rfl (by omega)) ?_
            refine wl_det rfl rfl rfl (op_move rfl) ?_
            refine wl_nil ?_
            refine st_roundK (x := i) (i + 1) [2] (⟨by omega, by rw [hv, hstep, herr], fun q hq => by rw [take_snoc hr] at hq; rcases List.mem_append.1 hq with hq | hq; (· exact hpr q hq); (· rw [List.mem_singleton] at hq; subst hq; omega)⟩) (by omega) (.cons rfl (.nil _)) (.cons rfl (.cons rfl (.cons rfl (.cons rfl (.nil _))))) rfl (rfl) 
  · -- c9.f
    refine w_exit ?_
    refine st_te ?_
    refine st_te ?_
    refine st_be ?_
    refine st_tn ?_
    refine w_seq ?_
    refine w_region ?_
    refine wl_det rfl rfl rfl (op_move rfl) ?_
    refine wl_op [] rfl rfl rfl rfl (op_fn Try.func61 rfl rfl rfl (cloneR 50 (Sl.app h _) hl)) ?_
    rintro _ _ ⟨a50, c50, rfl, rfl⟩
    refine wl_det rfl rfl rfl (op_build tB26m rfl rfl) ?_
    refine wl_op0 [2] rfl rfl rfl (op_store rfl rfl tZ26m (by rfl) (by rfl) (by exact Nat.le_of_ble_eq_true rfl)) ?_
    rintro _ _ ⟨rfl, rfl⟩
    refine wl_det rfl rfl rfl (op_assign rfl) ?_
    refine wl_nil ?_
    refine st_tn ?_
    refine w_ret ?_
    refine st_ret (vs := [_, _]) [50] Try.results35 ⟨⟨_, rfl, Ent.mono (Ent.lab (l := 2) rfl (says_cel 0)) (fun _ h => run_load_agg tA26m h (Nat.le_of_ble_eq_true rfl))⟩, ⟨rfl, trivial⟩⟩ rfl ?_
    refine ⟨[(lab, _)], rfl, ?_⟩
    have he : chkFrom none l = 0 := by rw [hv, List.drop_eq_nil_of_le (by omega)]; rfl
    obtain ⟨h1, h2, _⟩ := chkFrom_wf he
    rw [he]
    exact ⟨l, _, _, h1, h2, fun n => ⟨fun h => ⟨rfl, h⟩, fun h => h.2⟩, rfl, rfl⟩

theorem validB2 (x y : Int) : validB [x, y] = true ↔ (0 ≤ x ∧ x < 1048576) ∧ (0 ≤ y ∧ y < 1048576) := by unfold validB; simp
set_option maxHeartbeats 1000000 in
set_option maxRecDepth 100000 in
theorem checkRuns_any {σ : World} {F : List Res} {a : Option Addr} {c : Nat} {l : List Run} (h : Sl σ F encRun 2 (.slice a l.length c) l) :
    FnT Try.prog σ F 36 [.slice a l.length c] [] (fun u ρ => u = .int .i64 (chkFrom none l) ∧ ρ = []) := by
  refine fn_of 53 Try.func36 rfl Try.ntmps36 rfl ?_
  have hle := h.i64
  refine w_seq ?_
  refine w_region ?_
  refine wl_det rfl rfl rfl (op_assign rfl) ?_
  refine wl_nil ?_
  refine st_tn ?_
  refine w_seq ?_
  refine w_seq ?_
  refine w_region ?_
  refine wl_det rfl rfl rfl (op_assign rfl) ?_
  refine wl_nil ?_
  refine st_tn ?_
  refine w_block ?_
  refine w_loopK (X := Nat) (fun i => i ≤ l.length ∧ chkFrom none l = chkFrom (prevAt l i) (l.drop i) ∧ ∀ r ∈ l.take i, 0 ≤ r.2 ∧ r.2 < 1048576) (fun i => [(3, .int .i64 i)]) (fun _ => []) (fun i => l.length - i) (0) [(0, _)] [] (⟨Nat.zero_le _, rfl, by simp⟩) (.cons rfl (.nil _)) (.cons rfl (.nil _)) [] rfl (rfl) ?_
  rintro i ⟨hi, hv, hpr⟩
  refine w_norm2 (by dsimp only [List.cons_append, List.nil_append]) (by dsimp only [List.cons_append, List.nil_append]) ?_
  refine w_seq ?_
  refine w_seq ?_
  refine w_region ?_
  refine wl_det rfl rfl rfl (op_move rfl) ?_
  refine wl_det rfl rfl rfl (op_move rfl) ?_
  refine wl_det rfl rfl rfl (op_lenT rfl tS38m (Sl.ent (by first | exact Sl.app (by assumption) _ | exact Sl.app (Sl.app (by assumption) _) _))) ?_
  refine wl_det rfl rfl rfl (op_lss rfl rfl) ?_
  refine wl_nil ?_
  refine st_tn ?_
  refine w_cond_d rfl (fun hc7 => ?_) (fun hc7 => ?_)
  · -- c7.t
    obtain ⟨r, hr⟩ := getE (l := l) (i := i) (by omega)
    have hlt := ltE hr
    have hstep := chk_at hr
    have hpg := prevAt_getD (l := l) (i := i) (x := r.1) hlt
    refine w_skip ?_
    refine st_tn ?_
    refine w_seq ?_
    refine w_block ?_
    refine w_seq ?_
    refine w_seq ?_
    refine w_cutL [(22, .bool (!validB [r.1, r.2]))] [0, 3] [] rfl (fun K' hK => ?_) ?_
    · -- cut r4
      refine w_draw (D := [⟨10, [], [], [], _, false, [], []⟩, ⟨11, [], [], [], _, false, [], []⟩, ⟨12, [0, 1], [], [], _, false, [], []⟩, ⟨13, [2], [], [], _, false, [], []⟩, ⟨14, [3], [], [], _, false, [], []⟩, ⟨15, [], [], [], _, false, [], []⟩, ⟨16, [], [], [], _, false, [], []⟩, ⟨17, [5, 6], [], [], _, false, [], []⟩, ⟨18, [7], [], [], _, false, [], []⟩, ⟨19, [8], [], [], _, false, [], []⟩]) [] [0, 3] [⟨10, [], [], false, [], []⟩, ⟨11, [], [], false, [], []⟩, ⟨12, [0, 1], [], false, [], []⟩, ⟨13, [2], [], false, [], []⟩, ⟨14, [3], [], false, [], []⟩, ⟨15, [], [], false, [], []⟩, ⟨16, [], [], false, [], []⟩, ⟨17, [5, 6], [], false, [], []⟩, ⟨18, [7], [], false, [], []⟩, ⟨19, [8], [], false, [], []⟩] tMixm (by rfl) (by kernel_rfl) (by rfl) (by rfl)
          ⟨.plain rfl (by intro X; exact op_move rfl),
          ⟨.plain rfl (by intro X; exact op_move rfl),
          ⟨.plain rfl (by intro X; rintro _ _ ⟨rfl, rfl⟩ _ _ ⟨rfl, rfl⟩; exact op_idx rfl rfl tS38m (Sl.ent (by first | exact Sl.app (by assumption) _ | exact Sl.app (Sl.app (by assumption) _) _)) (by omega)),
          ⟨.plain rfl (by intro X; rintro _ _ ⟨rfl, rfl⟩; exact op_idxArr (i := 0) rfl rfl tR37m (Nat.le_of_ble_eq_true rfl)),
          ⟨.plain rfl (by intro X; rintro _ _ ⟨rfl, rfl⟩; exact op_ldxf rfl tO3m (by first | exact Sl.app (by assumption) _ | exact Sl.app (Sl.app (by assumption) _) _) (by assumption) (by rfl)),
          ⟨.plain rfl (by intro X; exact op_move rfl),
          ⟨.plain rfl (by intro X; exact op_move rfl),
          ⟨.plain rfl (by intro X; rintro _ _ ⟨rfl, rfl⟩ _ _ ⟨rfl, rfl⟩; exact op_idx rfl rfl tS38m (Sl.ent (by first | exact Sl.app (by assumption) _ | exact Sl.app (Sl.app (by assumption) _) _)) (by omega)),
          ⟨.plain rfl (by intro X; rintro _ _ ⟨rfl, rfl⟩; exact op_idxArr (i := 1) rfl rfl tR37m (Nat.le_of_ble_eq_true rfl)),
          ⟨.plain rfl (by intro X; rintro _ _ ⟨rfl, rfl⟩; exact op_ldxf rfl tO3m (by first | exact Sl.app (by assumption) _ | exact Sl.app (Sl.app (by assumption) _) _) (by assumption) (by rfl)),
          trivial⟩⟩⟩⟩⟩⟩⟩⟩⟩⟩ ?_
      rintro _ _ ⟨rfl, rfl⟩ _ _ ⟨rfl, rfl⟩ _ _ ⟨rfl, rfl⟩ _ _ ⟨rfl, rfl⟩ _ _ ⟨rfl, rfl⟩ _ _ ⟨rfl, rfl⟩ _ _ ⟨rfl, rfl⟩ _ _ ⟨rfl, rfl⟩ _ _ ⟨rfl, rfl⟩ _ _ ⟨rfl, rfl⟩
      refine wl_norm (e' := [(0, _), (3, _), (14, _), (19, _)]) (.cons rfl (.cons rfl (.cons rfl (.cons rfl (.nil _))))) (by dsimp only [cond_false, cond_true, List.nil_append, List.cons_append]) ?_
      refine wl_op [] rfl rfl rfl rfl (op_buildSlice (enc := SL.encZ) (l := [_, _]) (lab := 20) tL22_2m rfl rfl (fun _ => rfl) rfl) ?_
      rintro _ _ ⟨a20, c20, rfl, rfl⟩
      refine wl_det rfl rfl rfl (op_fn Try.func15 rfl rfl rfl (valid_any (l := [r.1, r.2]) (Sl.lab 20 rfl (by simp [maxLen])))) ?_
      refine wl_det rfl rfl rfl (op_not rfl) ?_
      refine wl_nil ?_
      refine st_tn ?_
      exact cut_done (L' := []) hK (by intro q hq; simp only [List.mem_cons, List.not_mem_nil, or_false] at hq; subst hq; all_goals first | rfl | (show some _ = some _; simp [*]; done)) (by rfl) rfl rfl
    · -- behind r4
      show W _ _ _ _ _ [(22, _), (0, _), (3, _)] [] _
      refine w_cond rfl (fun hc22 => ?_) (fun hc22 => ?_)
      · -- c22.t
        have hc22' : ¬ (0 ≤ r.1 ∧ r.1 < 1048576) ∨ ¬ (0 ≤ r.2 ∧ r.2 < 1048576) := by
          have := validB2 r.1 r.2
          simp only [Bool.not_eq_true'] at hc22
          rw [hc22] at this; simp only [Bool.false_eq_true, false_iff] at this; omega
        have herr : errAt (prevAt l i) r = some 2 := by unfold errAt; rw [if_pos hc22']
        refine w_seq ?_
        refine w_region ?_
        refine wl_det rfl rfl rfl (op_assign rfl) ?_
        refine wl_nil ?_
        refine st_tn ?_
        refine w_ret ?_
        refine st_tr ?_
        refine st_br ?_
        refine st_tr ?_
        refine st_tr ?_
        refine st_br ?_
        refine st_tr ?_
        refine st_ret (vs := [_]) [] Try.results36 ⟨rfl, trivial⟩ rfl ?_
        refine ⟨_, rfl, ?_⟩
        have he : chkFrom none l = 2 := by rw [hv, hstep, herr]
        rw [he]; exact ⟨rfl, rfl⟩
      · -- c22.f
        have hc22' : ¬ (¬ (0 ≤ r.1 ∧ r.1 < 1048576) ∨ ¬ (0 ≤ r.2 ∧ r.2 < 1048576)) := by
          have := validB2 r.1 r.2
          simp only [Bool.not_eq_false'] at hc22
          rw [hc22] at this; simp only [true_iff] at this; omega
        refine w_skip ?_
        refine st_tn ?_
        refine w_seq ?_
        refine w_cutL [(52, .bool (decide (r.2 < r.1 ∨ (0 < (i : Int) ∧ r.1 ≤ (l.getD (i - 1) (0, 0)).2 + 1))))] [0, 3] [] rfl (fun K' hK => ?_) ?_
        · -- cut r6
          by_cases h5 : r.2 < r.1
          · -- h5 True
            refine w_draw (D := (⟨23, [], [], [], _, false, [], []⟩ :: ⟨24, [], [], [], _, false, [], []⟩ :: ⟨25, [0, 1], [], [], _, false, [], []⟩ :: ⟨26, [2], [], [], _, false, [], []⟩ :: ⟨27, [3], [], [], _, false, [], []⟩ :: ⟨28, [], [], [], _, false, [], []⟩ :: ⟨29, [], [], [], _, false, [], []⟩ :: ⟨30, [5, 6], [], [], _, false, [], []⟩ :: ⟨31, [7], [], [], _, false, [], []⟩ :: ⟨32, [8], [], [], _, false, [], []⟩ :: ⟨33, [4, 9], [], [], _, false, [], []⟩ :: ⟨34, [10], [], [], _, false, [], []⟩ :: ⟨35, [], [], [], Det undef, false, [], []⟩ :: ⟨36, [], [], [], Det undef, false, [], []⟩ :: ⟨37, [], [], [], Det undef, false, [], []⟩ :: ⟨38, [], [], [], Det undef, false, [], []⟩ :: ⟨39, [], [], [], Det undef, false, [], []⟩ :: ⟨40, [], [], [], Det undef, false, [], []⟩ :: ⟨41, [], [], [], Det undef, false, [], []⟩ :: ⟨42, [], [], [], Det undef, false, [], []⟩ :: ⟨43, [], [], [], Det undef, false, [], []⟩ :: ⟨44, [], [], [], Det undef, false, [], []⟩ :: ⟨45, [], [], [], Det undef, false, [], []⟩ :: ⟨46, [], [], [], Det undef, false, [], []⟩ :: ⟨47, [], [], [], Det undef, false, [], []⟩ :: ⟨48, [], [], [], Det undef, false, [], []⟩ :: ⟨49, [], [], [], Det undef, false, [], []⟩ :: ⟨50, [], [], [], Det undef, false, [], []⟩ :: ⟨51, [], [], [], Det undef, false, [], []⟩ :: ⟨52, [11, 28], [], [], _, false, [], []⟩ :: [])) [] [0, 3] (⟨23, [], [], false, [], []⟩ :: ⟨24, [], [], false, [], []⟩ :: ⟨25, [0, 1], [], false, [], []⟩ :: ⟨26, [2], [], false, [], []⟩ :: ⟨27, [3], [], false, [], []⟩ :: ⟨28, [], [], false, [], []⟩ :: ⟨29, [], [], false, [], []⟩ :: ⟨30, [5, 6], [], false, [], []⟩ :: ⟨31, [7], [], false, [], []⟩ :: ⟨32, [8], [], false, [], []⟩ :: ⟨33, [4, 9], [], false, [], []⟩ :: ⟨34, [10], [], false, [], []⟩ :: ⟨35, [], [], false, [], []⟩ :: ⟨36, [], [], false, [], []⟩ :: ⟨37, [], [], false, [], []⟩ :: ⟨38, [], [], false, [], []⟩ :: ⟨39, [], [], false, [], []⟩ :: ⟨40, [], [], false, [], []⟩ :: ⟨41, [], [], false, [], []⟩ :: ⟨42, [], [], false, [], []⟩ :: ⟨43, [], [], false, [], []⟩ :: ⟨44, [], [], false, [], []⟩ :: ⟨45, [], [], false, [], []⟩ :: ⟨46, [], [], false, [], []⟩ :: ⟨47, [], [], false, [], []⟩ :: ⟨48, [], [], false, [], []⟩ :: ⟨49, [], [], false, [], []⟩ :: ⟨50, [], [], false, [], []⟩ :: ⟨51, [], [], false, [], []⟩ :: ⟨52, [11, 28], [], false, [], []⟩ :: []) tMixm (by rfl) (by kernel_rfl) (by rfl) (by rfl)
                ⟨.plain rfl (by intro X; exact op_move rfl),
                ⟨.plain rfl (by intro X; exact op_move rfl),
                ⟨.plain rfl (by intro X; rintro _ _ ⟨rfl, rfl⟩ _ _ ⟨rfl, rfl⟩; exact op_idx rfl rfl tS38m (Sl.ent (by first | exact Sl.app (by assumption) _ | exact Sl.app (Sl.app (by assumption) _) _)) (by omega)),
                ⟨.plain rfl (by intro X; rintro _ _ ⟨rfl, rfl⟩; exact op_idxArr (i := 1) rfl rfl tR37m (Nat.le_of_ble_eq_true rfl)),
                ⟨.plain rfl (by intro X; rintro _ _ ⟨rfl, rfl⟩; exact op_ldxf rfl tO3m (by first | exact Sl.app (by assumption) _ | exact Sl.app (Sl.app (by assumption) _) _) (by assumption) (by rfl)),
                ⟨.plain rfl (by intro X; exact op_move rfl),
                ⟨.plain rfl (by intro X; exact op_move rfl),
                ⟨.plain rfl (by intro X; rintro _ _ ⟨rfl, rfl⟩ _ _ ⟨rfl, rfl⟩; exact op_idx rfl rfl tS38m (Sl.ent (by first | exact Sl.app (by assumption) _ | exact Sl.app (Sl.app (by assumption) _) _)) (by omega)),
                ⟨.plain rfl (by intro X; rintro _ _ ⟨rfl, rfl⟩; exact op_idxArr (i := 0) rfl rfl tR37m (Nat.le_of_ble_eq_true rfl)),
                ⟨.plain rfl (by intro X; rintro _ _ ⟨rfl, rfl⟩; exact op_ldxf rfl tO3m (by first | exact Sl.app (by assumption) _ | exact Sl.app (Sl.app (by assumption) _) _) (by assumption) (by rfl)),
                ⟨.plain rfl (by intro X; rintro _ _ ⟨rfl, rfl⟩ _ _ ⟨rfl, rfl⟩; exact op_lss rfl rfl),
                ⟨.plain rfl (by intro X; rintro _ _ ⟨rfl, rfl⟩; exact op_move rfl),
                ⟨.unwanted rfl rfl rfl (by rintro _ _ ⟨rfl, rfl⟩; exact congrArg (offB false) (by first | rfl | (exact congrArg Value.bool (decide_eq_true (by omega))) | (exact congrArg Value.bool (decide_eq_false (by omega))) | (simp; done) | (simp; omega) | (simp [*]; done) : _ = Value.bool true)) ⟨rfl, rfl⟩ rfl rfl,
                ⟨.unwanted rfl rfl rfl (by rintro _ _ ⟨rfl, rfl⟩; exact congrArg (offB false) (by first | rfl | (exact congrArg Value.bool (decide_eq_true (by omega))) | (exact congrArg Value.bool (decide_eq_false (by omega))) | (simp; done) | (simp; omega) | (simp [*]; done) : _ = Value.bool true)) ⟨rfl, rfl⟩ rfl rfl,
                ⟨.unwanted rfl rfl rfl (by rintro _ _ ⟨rfl, rfl⟩; exact congrArg (offB false) (by first | rfl | (exact congrArg Value.bool (decide_eq_true (by omega))) | (exact congrArg Value.bool (decide_eq_false (by omega))) | (simp; done) | (simp; omega) | (simp [*]; done) : _ = Value.bool true)) ⟨rfl, rfl⟩ rfl rfl,
                ⟨.unwanted rfl rfl rfl (by rintro _ _ ⟨rfl, rfl⟩; rfl) ⟨rfl, rfl⟩ rfl rfl,
                ⟨.unwanted rfl rfl rfl (by rintro _ _ ⟨rfl, rfl⟩; rfl) ⟨rfl, rfl⟩ rfl rfl,
                ⟨.unwanted rfl rfl rfl (by rintro _ _ ⟨rfl, rfl⟩; rfl) ⟨rfl, rfl⟩ rfl rfl,
                ⟨.unwanted rfl rfl rfl (by rintro _ _ ⟨rfl, rfl⟩; rfl) ⟨rfl, rfl⟩ rfl rfl,
                ⟨.unwanted rfl rfl rfl (by rintro _ _ ⟨rfl, rfl⟩; rfl) ⟨rfl, rfl⟩ rfl rfl,
                ⟨.unwanted rfl rfl rfl (by rintro _ _ ⟨rfl, rfl⟩; rfl) ⟨rfl, rfl⟩ rfl rfl,
                ⟨.unwanted rfl rfl rfl (by rintro _ _ ⟨rfl, rfl⟩; rfl) ⟨rfl, rfl⟩ rfl rfl,
                ⟨.unwanted rfl rfl rfl (by rintro _ _ ⟨rfl, rfl⟩; rfl) ⟨rfl, rfl⟩ rfl rfl,
                ⟨.unwanted rfl rfl rfl (by rintro _ _ ⟨rfl, rfl⟩; rfl) ⟨rfl, rfl⟩ rfl rfl,
                ⟨.unwanted rfl rfl rfl (by rintro _ _ ⟨rfl, rfl⟩; rfl) ⟨rfl, rfl⟩ rfl rfl,
                ⟨.unwanted rfl rfl rfl (by rintro _ _ ⟨rfl, rfl⟩; rfl) ⟨rfl, rfl⟩ rfl rfl,
                ⟨.unwanted rfl rfl rfl (by rintro _ _ ⟨rfl, rfl⟩; rfl) ⟨rfl, rfl⟩ rfl rfl,
                ⟨.unwanted rfl rfl rfl (by rintro _ _ ⟨rfl, rfl⟩; rfl) ⟨rfl, rfl⟩ rfl rfl,
                ⟨.unwanted rfl rfl rfl (by rintro _ _ ⟨rfl, rfl⟩; exact congrArg (offB false) (by first | rfl | (exact congrArg Value.bool (decide_eq_true (by omega))) | (exact congrArg Value.bool (decide_eq_false (by omega))) | (simp; done) | (simp; omega) | (simp [*]; done) : _ = Value.bool true)) ⟨rfl, rfl⟩ rfl rfl,
                ⟨.plain rfl (by intro X; rintro _ _ ⟨rfl, rfl⟩ _ _ ⟨rfl, rfl⟩; exact op_pick_t (by first | rfl | (show some (Value.bool (decide _)) = _; rw [decide_eq_true (by omega)]) | (show some (Value.bool (decide _)) = _; rw [decide_eq_false (by omega)]) | (simp [ev, lk]; done) | (simp [ev, lk]; omega) | (simp [ev, lk, *]; done)) rfl),
                trivial⟩⟩⟩⟩⟩⟩⟩⟩⟩⟩⟩⟩⟩⟩⟩⟩⟩⟩⟩⟩⟩⟩⟩⟩⟩⟩⟩⟩⟩⟩ ?_
            rintro _ _ ⟨rfl, rfl⟩ _ _ ⟨rfl, rfl⟩ _ _ ⟨rfl, rfl⟩ _ _ ⟨rfl, rfl⟩ _ _ ⟨rfl, rfl⟩ _ _ ⟨rfl, rfl⟩ _ _ ⟨rfl, rfl⟩ _ _ ⟨rfl, rfl⟩ _ _ ⟨rfl, rfl⟩ _ _ ⟨rfl, rfl⟩ _ _ ⟨rfl, rfl⟩ _ _ ⟨rfl, rfl⟩ _ _ ⟨rfl, rfl⟩ _ _ ⟨rfl, rfl⟩ _ _ ⟨rfl, rfl⟩ _ _ ⟨rfl, rfl⟩ _ _ ⟨rfl, rfl⟩ _ _ ⟨rfl, rfl⟩ _ _ ⟨rfl, rfl⟩ _ _ ⟨rfl, rfl⟩ _ _ ⟨rfl, rfl⟩ _ _ ⟨rfl, rfl⟩ _ _ ⟨rfl, rfl⟩ _ _ ⟨rfl, rfl⟩ _ _ ⟨rfl, rfl⟩ _ _ ⟨rfl, rfl⟩ _ _ ⟨rfl, rfl⟩ _ _ ⟨rfl, rfl⟩ _ _ ⟨rfl, rfl⟩ _ _ ⟨rfl, rfl⟩
            refine wl_norm (e' := [(0, _), (3, _), (52, _)]) (.cons rfl (.cons rfl (.cons rfl (.nil _)))) (by dsimp only [cond_false, cond_true, List.nil_append, List.cons_append]) ?_
            refine wl_nil ?_
            refine st_tn ?_
            exact cut_done1 [] hK rfl (by first | (rw [decide_eq_decide]; omega) | (symm; rw [decide_eq_false_iff_not]; omega) | (symm; rw [decide_eq_true_iff]; omega) | (simp; done) | (simp; omega) | (simp [*]; done) | (simp [*]; omega)) (by rfl) rfl rfl
          · -- h5 False
            by_cases h8 : (0 : Int) < (i : Int)
            · -- h8 True
              obtain ⟨q, hq⟩ := getE (l := l) (i := i - 1) (by omega)
              have hq' : l[((i : Int) - 1).toNat]? = some q := by rw [show ((i : Int) - 1).toNat = i - 1 by omega]; exact hq
              have hgd : l.getD (i - 1) (0, 0) = q := by rw [List.getD_eq_getElem?_getD, hq]; rfl
              have hqb := hpr q (by rw [List.mem_iff_getElem?]; exact ⟨i - 1, by rw [List.getElem?_take]; simp; exact ⟨by omega, hq⟩⟩)
              refine w_draw (D := (⟨23, [], [], [], _, false, [], []⟩ :: ⟨24, [], [], [], _, false, [], []⟩ :: ⟨25, [0, 1], [], [], _, false, [], []⟩ :: ⟨26, [2], [], [], _, false, [], []⟩ :: ⟨27, [3], [], [], _, false, [], []⟩ :: ⟨28, [], [], [], _, false, [], []⟩ :: ⟨29, [], [], [], _, false, [], []⟩ :: ⟨30, [5, 6], [], [], _, false, [], []⟩ :: ⟨31, [7], [], [], _, false, [], []⟩ :: ⟨32, [8], [], [], _, false, [], []⟩ :: ⟨33, [4, 9], [], [], _, false, [], []⟩ :: ⟨34, [10], [], [], _, false, [], []⟩ :: ⟨35, [], [], [], _, false, [], []⟩ :: ⟨36, [12], [], [], _, false, [], []⟩ :: ⟨37, [13], [], [], _, false, [], []⟩ :: ⟨38, [], [], [], _, false, [], []⟩ :: ⟨39, [], [], [], _, false, [], []⟩ :: ⟨40, [15, 16], [], [], _, false, [], []⟩ :: ⟨41, [17], [], [], _, false, [], []⟩ :: ⟨42, [18], [], [], _, false, [], []⟩ :: ⟨43, [], [], [], _, false, [], []⟩ :: ⟨44, [], [], [], _, false, [], []⟩ :: ⟨45, [21], [], [], _, false, [], []⟩ :: ⟨46, [20, 22], [], [], _, false, [], []⟩ :: ⟨47, [23], [], [], _, false, [], []⟩ :: ⟨48, [24], [], [], _, false, [], []⟩ :: ⟨49, [25], [], [], _, false, [], []⟩ :: ⟨50, [19, 26], [], [], _, false, [], []⟩ :: ⟨51, [14, 27], [], [], _, false, [], []⟩ :: ⟨52, [11, 28], [], [], _, false, [], []⟩ :: [])) [] [0, 3] (⟨23, [], [], false, [], []⟩ :: ⟨24, [], [], false, [], []⟩ :: ⟨25, [0, 1], [], false, [], []⟩ :: ⟨26, [2], [], false, [], []⟩ :: ⟨27, [3], [], false, [], []⟩ :: ⟨28, [], [], false, [], []⟩ :: ⟨29, [], [], false, [], []⟩ :: ⟨30, [5, 6], [], false, [], []⟩ :: ⟨31, [7], [], false, [], []⟩ :: ⟨32, [8], [], false, [], []⟩ :: ⟨33, [4, 9], [], false, [], []⟩ :: ⟨34, [10], [], false, [], []⟩ :: ⟨35, [], [], false, [], []⟩ :: ⟨36, [12], [], false, [], []⟩ :: ⟨37, [13], [], false, [], []⟩ :: ⟨38, [], [], false, [], []⟩ :: ⟨39, [], [], false, [], []⟩ :: ⟨40, [15, 16], [], false, [], []⟩ :: ⟨41, [17], [], false, [], []⟩ :: ⟨42, [18], [], false, [], []⟩ :: ⟨43, [], [], false, [], []⟩ :: ⟨44, [], [], false, [], []⟩ :: ⟨45, [21], [], false, [], []⟩ :: ⟨46, [20, 22], [], false, [], []⟩ :: ⟨47, [23], [], false, [], []⟩ :: ⟨48, [24], [], false, [], []⟩ :: ⟨49, [25], [], false, [], []⟩ :: ⟨50, [19, 26], [], false, [], []⟩ :: ⟨51, [14, 27], [], false, [], []⟩ :: ⟨52, [11, 28], [], false, [], []⟩ :: []) tMixm (by rfl) (by kernel_rfl) (by rfl) (by rfl)
                  ⟨.plain rfl (by intro X; exact op_move rfl),
                  ⟨.plain rfl (by intro X; exact op_move rfl),
                  ⟨.plain rfl (by intro X; rintro _ _ ⟨rfl, rfl⟩ _ _ ⟨rfl, rfl⟩; exact op_idx rfl rfl tS38m (Sl.ent (by first | exact Sl.app (by assumption) _ | exact Sl.app (Sl.app (by assumption) _) _)) (by omega)),
                  ⟨.plain rfl (by intro X; rintro _ _ ⟨rfl, rfl⟩; exact op_idxArr (i := 1) rfl rfl tR37m (Nat.le_of_ble_eq_true rfl)),
                  ⟨.plain rfl (by intro X; rintro _ _ ⟨rfl, rfl⟩; exact op_ldxf rfl tO3m (by first | exact Sl.app (by assumption) _ | exact Sl.app (Sl.app (by assumption) _) _) (by assumption) (by rfl)),
                  ⟨.plain rfl (by intro X; exact op_move rfl),
                  ⟨.plain rfl (by intro X; exact op_move rfl),
                  ⟨.plain rfl (by intro X; rintro _ _ ⟨rfl, rfl⟩ _ _ ⟨rfl, rfl⟩; exact op_idx rfl rfl tS38m (Sl.ent (by first | exact Sl.app (by assumption) _ | exact Sl.app (Sl.app (by assumption) _) _)) (by omega)),
                  ⟨.plain rfl (by intro X; rintro _ _ ⟨rfl, rfl⟩; exact op_idxArr (i := 0) rfl rfl tR37m (Nat.le_of_ble_eq_true rfl)),
                  ⟨.plain rfl (by intro X; rintro _ _ ⟨rfl, rfl⟩; exact op_ldxf rfl tO3m (by first | exact Sl.app (by assumption) _ | exact Sl.app (Sl.app (by assumption) _) _) (by assumption) (by rfl)),
                  ⟨.plain rfl (by intro X; rintro _ _ ⟨rfl, rfl⟩ _ _ ⟨rfl, rfl⟩; exact op_lss rfl rfl),
                  ⟨.plain rfl (by intro X; rintro _ _ ⟨rfl, rfl⟩; exact op_move rfl),
                  ⟨.wanted rfl rfl rfl (by rintro _ _ ⟨rfl, rfl⟩; first | rfl | (exact congrArg Value.bool (decide_eq_true (by omega))) | (exact congrArg Value.bool (decide_eq_false (by omega))) | (simp; done) | (simp; omega) | (simp [*]; done)) (by intro X; exact op_move rfl),
                  ⟨.wanted rfl rfl rfl (by rintro _ _ ⟨rfl, rfl⟩; first | rfl | (exact congrArg Value.bool (decide_eq_true (by omega))) | (exact congrArg Value.bool (decide_eq_false (by omega))) | (simp; done) | (simp; omega) | (simp [*]; done)) (by intro X; rintro _ _ ⟨rfl, rfl⟩; exact op_gtr rfl rfl),
                  ⟨.wanted rfl rfl rfl (by rintro _ _ ⟨rfl, rfl⟩; first | rfl | (exact congrArg Value.bool (decide_eq_true (by omega))) | (exact congrArg Value.bool (decide_eq_false (by omega))) | (simp; done) | (simp; omega) | (simp [*]; done)) (by intro X; rintro _ _ ⟨rfl, rfl⟩; exact op_move rfl),
                  ⟨.wanted rfl rfl rfl (by rintro _ _ ⟨rfl, rfl⟩; first | rfl | (exact congrArg Value.bool (decide_eq_true (by omega))) | (exact congrArg Value.bool (decide_eq_false (by omega))) | (simp; done) | (simp; omega) | (simp [*]; done)) (by intro X; exact op_move rfl),
                  ⟨.wanted rfl rfl rfl (by rintro _ _ ⟨rfl, rfl⟩; first | rfl | (exact congrArg Value.bool (decide_eq_true (by omega))) | (exact congrArg Value.bool (decide_eq_false (by omega))) | (simp; done) | (simp; omega) | (simp [*]; done)) (by intro X; exact op_move rfl),
                  ⟨.wanted rfl rfl rfl (by rintro _ _ ⟨rfl, rfl⟩; first | rfl | (exact congrArg Value.bool (decide_eq_true (by omega))) | (exact congrArg Value.bool (decide_eq_false (by omega))) | (simp; done) | (simp; omega) | (simp [*]; done)) (by intro X; rintro _ _ ⟨rfl, rfl⟩ _ _ ⟨rfl, rfl⟩; exact op_idx rfl rfl tS38m (Sl.ent (by first | exact Sl.app (by assumption) _ | exact Sl.app (Sl.app (by assumption) _) _)) (by omega)),
                  ⟨.wanted rfl rfl rfl (by rintro _ _ ⟨rfl, rfl⟩; first | rfl | (exact congrArg Value.bool (decide_eq_true (by omega))) | (exact congrArg Value.bool (decide_eq_false (by omega))) | (simp; done) | (simp; omega) | (simp [*]; done)) (by intro X; rintro _ _ ⟨rfl, rfl⟩; exact op_idxArr (i := 0) rfl rfl tR37m (Nat.le_of_ble_eq_true rfl)),
                  ⟨.wanted rfl rfl rfl (by rintro _ _ ⟨rfl, rfl⟩; first | rfl | (exact congrArg Value.bool (decide_eq_true (by omega))) | (exact congrArg Value.bool (decide_eq_false (by omega))) | (simp; done) | (simp; omega) | (simp [*]; done)) (by intro X; rintro _ _ ⟨rfl, rfl⟩; exact op_ldxf rfl tO3m (by first | exact Sl.app (by assumption) _ | exact Sl.app (Sl.app (by assumption) _) _) (by assumption) (by rfl)),
                  ⟨.wanted rfl rfl rfl (by rintro _ _ ⟨rfl, rfl⟩; first | rfl | (exact congrArg Value.bool (decide_eq_true (by omega))) | (exact congrArg Value.bool (decide_eq_false (by omega))) | (simp; done) | (simp; omega) | (simp [*]; done)) (by intro X; exact op_move rfl),
                  ⟨.wanted rfl rfl rfl (by rintro _ _ ⟨rfl, rfl⟩; first | rfl | (exact congrArg Value.bool (decide_eq_true (by omega))) | (exact congrArg Value.bool (decide_eq_false (by omega))) | (simp; done) | (simp; omega) | (simp [*]; done)) (by intro X; exact op_move rfl),
                  ⟨.wanted rfl rfl rfl (by rintro _ _ ⟨rfl, rfl⟩; first | rfl | (exact congrArg Value.bool (decide_eq_true (by omega))) | (exact congrArg Value.bool (decide_eq_false (by omega))) | (simp; done) | (simp; omega) | (simp [*]; done)) (by intro X; rintro _ _ ⟨rfl, rfl⟩; exact op_sub' rfl rfl (by omega)),
                  ⟨.wanted rfl rfl rfl (by rintro _ _ ⟨rfl, rfl⟩; first | rfl | (exact congrArg Value.bool (decide_eq_true (by omega))) | (exact congrArg Value.bool (decide_eq_false (by omega))) | (simp; done) | (simp; omega) | (simp [*]; done)) (by intro X; rintro _ _ ⟨rfl, rfl⟩ _ _ ⟨rfl, rfl⟩; exact op_idxZ rfl rfl tS38m (Sl.ent (by first | exact Sl.app (by assumption) _ | exact Sl.app (Sl.app (by assumption) _) _)) (by omega) (by omega)),
                  ⟨.wanted rfl rfl rfl (by rintro _ _ ⟨rfl, rfl⟩; first | rfl | (exact congrArg Value.bool (decide_eq_true (by omega))) | (exact congrArg Value.bool (decide_eq_false (by omega))) | (simp; done) | (simp; omega) | (simp [*]; done)) (by intro X; rintro _ _ ⟨rfl, rfl⟩; exact op_idxArr (i := 1) rfl rfl tR37m (Nat.le_of_ble_eq_true rfl)),
                  ⟨.wanted rfl rfl rfl (by rintro _ _ ⟨rfl, rfl⟩; first | rfl | (exact congrArg Value.bool (decide_eq_true (by omega))) | (exact congrArg Value.bool (decide_eq_false (by omega))) | (simp; done) | (simp; omega) | (simp [*]; done)) (by intro X; rintro _ _ ⟨rfl, rfl⟩; exact op_ldxf rfl tO3m (by first | exact Sl.app (by assumption) _ | exact Sl.app (Sl.app (by assumption) _) _) (by assumption) (by rfl)),
                  ⟨.wanted rfl rfl rfl (by rintro _ _ ⟨rfl, rfl⟩; first | rfl | (exact congrArg Value.bool (decide_eq_true (by omega))) | (exact congrArg Value.bool (decide_eq_false (by omega))) | (simp; done) | (simp; omega) | (simp [*]; done)) (by intro X; rintro _ _ ⟨rfl, rfl⟩; exact op_add' rfl rfl (by omega)),
                  ⟨.wanted rfl rfl rfl (by rintro _ _ ⟨rfl, rfl⟩; first | rfl | (exact congrArg Value.bool (decide_eq_true (by omega))) | (exact congrArg Value.bool (decide_eq_false (by omega))) | (simp; done) | (simp; omega) | (simp [*]; done)) (by intro X; rintro _ _ ⟨rfl, rfl⟩ _ _ ⟨rfl, rfl⟩; exact op_leq rfl rfl),
                  ⟨.wanted rfl rfl rfl (by rintro _ _ ⟨rfl, rfl⟩; first | rfl | (exact congrArg Value.bool (decide_eq_true (by omega))) | (exact congrArg Value.bool (decide_eq_false (by omega))) | (simp; done) | (simp; omega) | (simp [*]; done)) (by intro X; rintro _ _ ⟨rfl, rfl⟩ _ _ ⟨rfl, rfl⟩; exact op_pick_t (by first | rfl | (show some (Value.bool (decide _)) = _; rw [decide_eq_true (by omega)]) | (show some (Value.bool (decide _)) = _; rw [decide_eq_false (by omega)]) | (simp [ev, lk]; done) | (simp [ev, lk]; omega) | (simp [ev, lk, *]; done)) rfl),
                  ⟨.plain rfl (by intro X; rintro _ _ ⟨rfl, rfl⟩ _ _ ⟨rfl, rfl⟩; exact op_pick_f (by first | rfl | (show some (Value.bool (decide _)) = _; rw [decide_eq_true (by omega)]) | (show some (Value.bool (decide _)) = _; rw [decide_eq_false (by omega)]) | (simp [ev, lk]; done) | (simp [ev, lk]; omega) | (simp [ev, lk, *]; done)) rfl),
                  trivial⟩⟩⟩⟩⟩⟩⟩⟩⟩⟩⟩⟩⟩⟩⟩⟩⟩⟩⟩⟩⟩⟩⟩⟩⟩⟩⟩⟩⟩⟩ ?_
              rintro _ _ ⟨rfl, rfl⟩ _ _ ⟨rfl, rfl⟩ _ _ ⟨rfl, rfl⟩ _ _ ⟨rfl, rfl⟩ _ _ ⟨rfl, rfl⟩ _ _ ⟨rfl, rfl⟩ _ _ ⟨rfl, rfl⟩ _ _ ⟨rfl, rfl⟩ _ _ ⟨rfl, rfl⟩ _ _ ⟨rfl, rfl⟩ _ _ ⟨rfl, rfl⟩ _ _ ⟨rfl, rfl⟩ _ _ ⟨rfl, rfl⟩ _ _ ⟨rfl, rfl⟩ _ _ ⟨rfl, rfl⟩ _ _ ⟨rfl, rfl⟩ _ _ ⟨rfl, rfl⟩ _ _ ⟨rfl, rfl⟩ _ _ ⟨rfl, rfl⟩ _ _ ⟨rfl, rfl⟩ _ _ ⟨rfl, rfl⟩ _ _ ⟨rfl, rfl⟩ _ _ ⟨rfl, rfl⟩ _ _ ⟨rfl, rfl⟩ _ _ ⟨rfl, rfl⟩ _ _ ⟨rfl, rfl⟩ _ _ ⟨rfl, rfl⟩ _ _ ⟨rfl, rfl⟩ _ _ ⟨rfl, rfl⟩ _ _ ⟨rfl, rfl⟩
              refine wl_norm (e' := [(0, _), (3, _), (52, _)]) (.cons rfl (.cons rfl (.cons rfl (.nil _)))) (by dsimp only [cond_false, cond_true, List.nil_append, List.cons_append]) ?_
              refine wl_nil ?_
              refine st_tn ?_
              exact cut_done1 [] hK rfl (by first | (rw [decide_eq_decide]; omega) | (symm; rw [decide_eq_false_iff_not]; omega) | (symm; rw [decide_eq_true_iff]; omega) | (simp; done) | (simp; omega) | (simp [*]; done) | (simp [*]; omega)) (by rfl) rfl rfl
            · -- h8 False
              refine w_draw (D := (⟨23, [], [], [], _, false, [], []⟩ :: ⟨24, [], [], [], _, false, [], []⟩ :: ⟨25, [0, 1], [], [], _, false, [], []⟩ :: ⟨26, [2], [], [], _, false, [], []⟩ :: ⟨27, [3], [], [], _, false, [], []⟩ :: ⟨28, [], [], [], _, false, [], []⟩ :: ⟨29, [], [], [], _, false, [], []⟩ :: ⟨30, [5, 6], [], [], _, false, [], []⟩ :: ⟨31, [7], [], [], _, false, [], []⟩ :: ⟨32, [8], [], [], _, false, [], []⟩ :: ⟨33, [4, 9], [], [], _, false, [], []⟩ :: ⟨34, [10], [], [], _, false, [], []⟩ :: ⟨35, [], [], [], _, false, [], []⟩ :: ⟨36, [12], [], [], _, false, [], []⟩ :: ⟨37, [13], [], [], _, false, [], []⟩ :: ⟨38, [], [], [], Det undef, false, [], []⟩ :: ⟨39, [], [], [], Det undef, false, [], []⟩ :: ⟨40, [], [], [], Det undef, false, [], []⟩ :: ⟨41, [], [], [], Det undef, false, [], []⟩ :: ⟨42, [], [], [], Det undef, false, [], []⟩ :: ⟨43, [], [], [], Det undef, false, [], []⟩ :: ⟨44, [], [], [], Det undef, false, [], []⟩ :: ⟨45, [], [], [], Det undef, false, [], []⟩ :: ⟨46, [], [], [], Det undef, false, [], []⟩ :: ⟨47, [], [], [], Det undef, false, [], []⟩ :: ⟨48, [], [], [], Det undef, false, [], []⟩ :: ⟨49, [], [], [], Det undef, false, [], []⟩ :: ⟨50, [], [], [], Det undef, false, [], []⟩ :: ⟨51, [14, 27], [], [], _, false, [], []⟩ :: ⟨52, [11, 28], [], [], _, false, [], []⟩ :: [])) [] [0, 3] (⟨23, [], [], false, [], []⟩ :: ⟨24, [], [], false, [], []⟩ :: ⟨25, [0, 1], [], false, [], []⟩ :: ⟨26, [2], [], false, [], []⟩ :: ⟨27, [3], [], false, [], []⟩ :: ⟨28, [], [], false, [], []⟩ :: ⟨29, [], [], false, [], []⟩ :: ⟨30, [5, 6], [], false, [], []⟩ :: ⟨31, [7], [], false, [], []⟩ :: ⟨32, [8], [], false, [], []⟩ :: ⟨33, [4, 9], [], false, [], []⟩ :: ⟨34, [10], [], false, [], []⟩ :: ⟨35, [], [], false, [], []⟩ :: ⟨36, [12], [], false, [], []⟩ :: ⟨37, [13], [], false, [], []⟩ :: ⟨38, [], [], false, [], []⟩ :: ⟨39, [], [], false, [], []⟩ :: ⟨40, [], [], false, [], []⟩ :: ⟨41, [], [], false, [], []⟩ :: ⟨42, [], [], false, [], []⟩ :: ⟨43, [], [], false, [], []⟩ :: ⟨44, [], [], false, [], []⟩ :: ⟨45, [], [], false, [], []⟩ :: ⟨46, [], [], false, [], []⟩ :: ⟨47, [], [], false, [], []⟩ :: ⟨48, [], [], false, [], []⟩ :: ⟨49, [], [], false, [], []⟩ :: ⟨50, [], [], false, [], []⟩ :: ⟨51, [14, 27], [], false, [], []⟩ :: ⟨52, [11, 28], [], false, [], []⟩ :: []) tMixm (by rfl) (by kernel_rfl) (by rfl) (by rfl)
                  ⟨.plain rfl (by intro X; exact op_move rfl),
                  ⟨.plain rfl (by intro X; exact op_move rfl),
                  ⟨.plain rfl (by intro X; rintro _ _ ⟨rfl, rfl⟩ _ _ ⟨rfl, rfl⟩; exact op_idx rfl rfl tS38m (Sl.ent (by first | exact Sl.app (by assumption) _ | exact Sl.app (Sl.app (by assumption) _) _)) (by omega)),
                  ⟨.plain rfl (by intro X; rintro _ _ ⟨rfl, rfl⟩; exact op_idxArr (i := 1) rfl rfl tR37m (Nat.le_of_ble_eq_true rfl)),
                  ⟨.plain rfl (by intro X; rintro _ _ ⟨rfl, rfl⟩; exact op_ldxf rfl tO3m (by first | exact Sl.app (by assumption) _ | exact Sl.app (Sl.app (by assumption) _) _) (by assumption) (by rfl)),
                  ⟨.plain rfl (by intro X; exact op_move rfl),
                  ⟨.plain rfl (by intro X; exact op_move rfl),
                  ⟨.plain rfl (by intro X; rintro _ _ ⟨rfl, rfl⟩ _ _ ⟨rfl, rfl⟩; exact op_idx rfl rfl tS38m (Sl.ent (by first | exact Sl.app (by assumption) _ | exact Sl.app (Sl.app (by assumption) _) _)) (by omega)),
                  ⟨.plain rfl (by intro X; rintro _ _ ⟨rfl, rfl⟩; exact op_idxArr (i := 0) rfl rfl tR37m (Nat.le_of_ble_eq_true rfl)),
                  ⟨.plain rfl (by intro X; rintro _ _ ⟨rfl, rfl⟩; exact op_ldxf rfl tO3m (by first | exact Sl.app (by assumption) _ | exact Sl.app (Sl.app (by assumption) _) _) (by assumption) (by rfl)),
                  ⟨.plain rfl (by intro X; rintro _ _ ⟨rfl, rfl⟩ _ _ ⟨rfl, rfl⟩; exact op_lss rfl rfl),
                  ⟨.plain rfl (by intro X; rintro _ _ ⟨rfl, rfl⟩; exact op_move rfl),
                  ⟨.wanted rfl rfl rfl (by rintro _ _ ⟨rfl, rfl⟩; first | rfl | (exact congrArg Value.bool (decide_eq_true (by omega))) | (exact congrArg Value.bool (decide_eq_false (by omega))) | (simp; done) | (simp; omega) | (simp [*]; done)) (by intro X; exact op_move rfl),
                  ⟨.wanted rfl rfl rfl (by rintro _ _ ⟨rfl, rfl⟩; first | rfl | (exact congrArg Value.bool (decide_eq_true (by omega))) | (exact congrArg Value.bool (decide_eq_false (by omega))) | (simp; done) | (simp; omega) | (simp [*]; done)) (by intro X; rintro _ _ ⟨rfl, rfl⟩; exact op_gtr rfl rfl),
                  ⟨.wanted rfl rfl rfl (by rintro _ _ ⟨rfl, rfl⟩; first | rfl | (exact congrArg Value.bool (decide_eq_true (by omega))) | (exact congrArg Value.bool (decide_eq_false (by omega))) | (simp; done) | (simp; omega) | (simp [*]; done)) (by intro X; rintro _ _ ⟨rfl, rfl⟩; exact op_move rfl),
                  ⟨.unwanted rfl rfl rfl (by rintro _ _ ⟨rfl, rfl⟩; exact congrArg (offB true) (by first | rfl | (exact congrArg Value.bool (decide_eq_true (by omega))) | (exact congrArg Value.bool (decide_eq_false (by omega))) | (simp; done) | (simp; omega) | (simp [*]; done) : _ = Value.bool false)) ⟨rfl, rfl⟩ rfl rfl,
                  ⟨.unwanted rfl rfl rfl (by rintro _ _ ⟨rfl, rfl⟩; exact congrArg (offB true) (by first | rfl | (exact congrArg Value.bool (decide_eq_true (by omega))) | (exact congrArg Value.bool (decide_eq_false (by omega))) | (simp; done) | (simp; omega) | (simp [*]; done) : _ = Value.bool false)) ⟨rfl, rfl⟩ rfl rfl,
                  ⟨.unwanted rfl rfl rfl (by rintro _ _ ⟨rfl, rfl⟩; exact congrArg (offB true) (by first | rfl | (exact congrArg Value.bool (decide_eq_true (by omega))) | (exact congrArg Value.bool (decide_eq_false (by omega))) | (simp; done) | (simp; omega) | (simp [*]; done) : _ = Value.bool false)) ⟨rfl, rfl⟩ rfl rfl,
                  ⟨.unwanted rfl rfl rfl (by rintro _ _ ⟨rfl, rfl⟩; exact congrArg (offB true) (by first | rfl | (exact congrArg Value.bool (decide_eq_true (by omega))) | (exact congrArg Value.bool (decide_eq_false (by omega))) | (simp; done) | (simp; omega) | (simp [*]; done) : _ = Value.bool false)) ⟨rfl, rfl⟩ rfl rfl,
                  ⟨.unwanted rfl rfl rfl (by rintro _ _ ⟨rfl, rfl⟩; exact congrArg (offB true) (by first | rfl | (exact congrArg Value.bool (decide_eq_true (by omega))) | (exact congrArg Value.bool (decide_eq_false (by omega))) | (simp; done) | (simp; omega) | (simp [*]; done) : _ = Value.bool false)) ⟨rfl, rfl⟩ rfl rfl,
                  ⟨.unwanted rfl rfl rfl (by rintro _ _ ⟨rfl, rfl⟩; exact congrArg (offB true) (by first | rfl | (exact congrArg Value.bool (decide_eq_true (by omega))) | (exact congrArg Value.bool (decide_eq_false (by omega))) | (simp; done) | (simp; omega) | (simp [*]; done) : _ = Value.bool false)) ⟨rfl, rfl⟩ rfl rfl,
                  ⟨.unwanted rfl rfl rfl (by rintro _ _ ⟨rfl, rfl⟩; exact congrArg (offB true) (by first | rfl | (exact congrArg Value.bool (decide_eq_true (by omega))) | (exact congrArg Value.bool (decide_eq_false (by omega))) | (simp; done) | (simp; omega) | (simp [*]; done) : _ = Value.bool false)) ⟨rfl, rfl⟩ rfl rfl,
                  ⟨.unwanted rfl rfl rfl (by rintro _ _ ⟨rfl, rfl⟩; exact congrArg (offB true) (by first | rfl | (exact congrArg Value.bool (decide_eq_true (by omega))) | (exact congrArg Value.bool (decide_eq_false (by omega))) | (simp; done) | (simp; omega) | (simp [*]; done) : _ = Value.bool false)) ⟨rfl, rfl⟩ rfl rfl,
                  ⟨.unwanted rfl rfl rfl (by rintro _ _ ⟨rfl, rfl⟩; exact congrArg (offB true) (by first | rfl | (exact congrArg Value.bool (decide_eq_true (by omega))) | (exact congrArg Value.bool (decide_eq_false (by omega))) | (simp; done) | (simp; omega) | (simp [*]; done) : _ = Value.bool false)) ⟨rfl, rfl⟩ rfl rfl,
                  ⟨.unwanted rfl rfl rfl (by rintro _ _ ⟨rfl, rfl⟩; exact congrArg (offB true) (by first | rfl | (exact congrArg Value.bool (decide_eq_true (by omega))) | (exact congrArg Value.bool (decide_eq_false (by omega))) | (simp; done) | (simp; omega) | (simp [*]; done) : _ = Value.bool false)) ⟨rfl, rfl⟩ rfl rfl,
                  ⟨.unwanted rfl rfl rfl (by rintro _ _ ⟨rfl, rfl⟩; exact congrArg (offB true) (by first | rfl | (exact congrArg Value.bool (decide_eq_true (by omega))) | (exact congrArg Value.bool (decide_eq_false (by omega))) | (simp; done) | (simp; omega) | (simp [*]; done) : _ = Value.bool false)) ⟨rfl, rfl⟩ rfl rfl,
                  ⟨.unwanted rfl rfl rfl (by rintro _ _ ⟨rfl, rfl⟩; exact congrArg (offB true) (by first | rfl | (exact congrArg Value.bool (decide_eq_true (by omega))) | (exact congrArg Value.bool (decide_eq_false (by omega))) | (simp; done) | (simp; omega) | (simp [*]; done) : _ = Value.bool false)) ⟨rfl, rfl⟩ rfl rfl,
                  ⟨.unwanted rfl rfl rfl (by rintro _ _ ⟨rfl, rfl⟩; exact congrArg (offB true) (by first | rfl | (exact congrArg Value.bool (decide_eq_true (by omega))) | (exact congrArg Value.bool (decide_eq_false (by omega))) | (simp; done) | (simp; omega) | (simp [*]; done) : _ = Value.bool false)) ⟨rfl, rfl⟩ rfl rfl,
                  ⟨.wanted rfl rfl rfl (by rintro _ _ ⟨rfl, rfl⟩; first | rfl | (exact congrArg Value.bool (decide_eq_true (by omega))) | (exact congrArg Value.bool (decide_eq_false (by omega))) | (simp; done) | (simp; omega) | (simp [*]; done)) (by intro X; rintro _ _ ⟨rfl, rfl⟩ _ _ ⟨rfl, rfl⟩; exact op_pick_f (by first | rfl | (show some (Value.bool (decide _)) = _; rw [decide_eq_true (by omega)]) | (show some (Value.bool (decide _)) = _; rw [decide_eq_false (by omega)]) | (simp [ev, lk]; done) | (simp [ev, lk]; omega) | (simp [ev, lk, *]; done)) rfl),
                  ⟨.plain rfl (by intro X; rintro _ _ ⟨rfl, rfl⟩ _ _ ⟨rfl, rfl⟩; exact op_pick_f (by first | rfl | (show some (Value.bool (decide _)) = _; rw [decide_eq_true (by omega)]) | (show some (Value.bool (decide _)) = _; rw [decide_eq_false (by omega)]) | (simp [ev, lk]; done) | (simp [ev, lk]; omega) | (simp [ev, lk, *]; done)) rfl),
                  trivial⟩⟩⟩⟩⟩⟩⟩⟩⟩⟩⟩⟩⟩⟩⟩⟩⟩⟩⟩⟩⟩⟩⟩⟩⟩⟩⟩⟩⟩⟩ ?_
              rintro _ _ ⟨rfl, rfl⟩ _ _ ⟨rfl, rfl⟩ _ _ ⟨rfl, rfl⟩ _ _ ⟨rfl, rfl⟩ _ _ ⟨rfl, rfl⟩ _ _ ⟨rfl, rfl⟩ _ _ ⟨rfl, rfl⟩ _ _ ⟨rfl, rfl⟩ _ _ ⟨rfl, rfl⟩ _ _ ⟨rfl, rfl⟩ _ _ ⟨rfl, rfl⟩ _ _ ⟨rfl, rfl⟩ _ _ ⟨rfl, rfl⟩ _ _ ⟨rfl, rfl⟩ _ _ ⟨rfl, rfl⟩ _ _ ⟨rfl, rfl⟩ _ _ ⟨rfl, rfl⟩ _ _ ⟨rfl, rfl⟩ _ _ ⟨rfl, rfl⟩ _ _ ⟨rfl, rfl⟩ _ _ ⟨rfl, rfl⟩ _ _ ⟨rfl, rfl⟩ _ _ ⟨rfl, rfl⟩ _ _ ⟨rfl, rfl⟩ _ _ ⟨rfl, rfl⟩ _ _ ⟨rfl, rfl⟩ _ _ ⟨rfl, rfl⟩ _ _ ⟨rfl, rfl⟩ _ _ ⟨rfl, rfl⟩ _ _ ⟨rfl, rfl⟩
              refine wl_norm (e' := [(0, _), (3, _), (52, _)]) (.cons rfl (.cons rfl (.cons rfl (.nil _)))) (by dsimp only [cond_false, cond_true, List.nil_append, List.cons_append]) ?_
              refine wl_nil ?_
              refine st_tn ?_
              exact cut_done1 [] hK rfl (by first | (rw [decide_eq_decide]; omega) | (symm; rw [decide_eq_false_iff_not]; omega) | (symm; rw [decide_eq_true_iff]; omega) | (simp; done) | (simp; omega) | (simp [*]; done) | (simp [*]; omega)) (by rfl) rfl rfl
        · -- behind r6
          show W _ _ _ _ _ [(52, _), (0, _), (3, _)] [] _
          refine w_cond_d rfl (fun hc52 => ?_) (fun hc52 => ?_)
          · -- c52.t
            have herr : errAt (prevAt l i) r = some 8 := by unfold errAt; rw [if_neg hc22', if_pos (by rw [← hpg]; exact hc52)]
            refine w_seq ?_
            refine w_region ?_
            refine wl_det rfl rfl rfl (op_assign rfl) ?_
            refine wl_nil ?_
            refine st_tn ?_
            refine w_ret ?_
            refine st_br ?_
            refine st_tr ?_
            refine st_tr ?_
            refine st_br ?_
            refine st_tr ?_
            refine st_ret (vs := [_]) [] Try.results36 ⟨rfl, trivial⟩ rfl ?_
            refine ⟨_, rfl, ?_⟩
            have he : chkFrom none l = 8 := by rw [hv, hstep, herr]
            rw [he]; exact ⟨rfl, rfl⟩
          · -- c52.f
            have herr : errAt (prevAt l i) r = none := by unfold errAt; rw [if_neg hc22', if_neg (by rw [← hpg]; exact hc52)]
            refine w_skip ?_
            refine st_bn ?_
            refine st_tn ?_
            refine w_region ?_
            refine wl_det rfl rfl rfl (op_move rfl) ?_
            refine wl_det rfl rfl rfl (op_add' rfl rfl (by omega)) ?_
            refine wl_det rfl rfl rfl (op_assign rfl) ?_
            refine wl_nil ?_
            refine st_roundK (x := i) (i + 1) [] (⟨by omega, by rw [hv, hstep, herr], fun q hq => by rw [take_snoc hr] at hq; rcases List.mem_append.1 hq with hq | hq; (· exact hpr q hq); (· rw [List.mem_singleton] at hq; subst hq; omega)⟩) (by omega) (.cons rfl (.nil _)) (.cons rfl (.nil _)) rfl (rfl) 
  · -- c7.f
    refine w_exit ?_
    refine st_te ?_
    refine st_te ?_
    refine st_be ?_
    refine st_tn ?_
    refine w_seq ?_
    refine w_region ?_
    refine wl_det rfl rfl rfl (op_assign rfl) ?_
    refine wl_nil ?_
    refine st_tn ?_
    refine w_ret ?_
    refine st_ret (vs := [_]) [] Try.results36 ⟨rfl, trivial⟩ rfl ?_
    refine ⟨_, rfl, ?_⟩
    have he : chkFrom none l = 0 := by rw [hv, List.drop_eq_nil_of_le (by omega)]; rfl
    rw [he]; exact ⟨rfl, rfl⟩

end Go.Proofs.Ytkknlfhncheflaa
