/- Contracts of the reference's functions on runs, and of bitmap.Not, Add (layer 5). Conditions: none. -/
import Derived.Test.YtkknlfhncheflaaB10
namespace Go.Proofs.Ytkknlfhncheflaa
open Go Go.SL Go.RowKit Go.BitM
set_option linter.unusedVariables false
set_option linter.unusedSimpArgs false
theorem tC37k : arrZB Try.prog 37 2 1 = some [Value.int .i64 0, Value.int .i64 0] := by kernel_rfl
theorem tL38_1k : zerosB Try.prog 38 37 2 1 = some [Value.int .i64 0, Value.int .i64 0] := by kernel_rfl
theorem tMixk : Try.prog.follows .mixedOrders = true := by kernel_rfl
theorem tO3k : oneB Try.prog 3 = true := by kernel_rfl
theorem tP22k : appB Try.prog 22 3 1 8 = true := by kernel_rfl
theorem tP38k : appB Try.prog 38 37 2 16 = true := by kernel_rfl
theorem tR37k : arrB Try.prog 37 2 1 = true := by kernel_rfl
theorem tS22k : sliceB Try.prog 22 3 1 = true := by kernel_rfl
theorem tS38k : sliceB Try.prog 38 37 2 = true := by kernel_rfl

-- CALL sleuth/sleuthref05.Valid valid_any {s0}
set_option maxHeartbeats 400000 in
set_option maxRecDepth 100000 in
theorem ror_any {σ : World} {F : List Res} {a b : Option Addr} {c d : Nat} {l m : List Int} (lab : Nat) (ha : Sl σ F encZ 1 (.slice a l.length c) l) (hb : Sl σ F encZ 1 (.slice b m.length d) m) (hl : l.length ≤ 1099511627776) (hl2 : m.length ≤ 1099511627776) (hl3 : l.length + m.length ≤ 1099511627776) :
    FnT Try.prog σ F 41 [.slice a l.length c, .slice b m.length d] [] (NewZ (srtU (l ++ m)) lab) := by
  refine fn_of 11 Try.func41 rfl Try.ntmps41 rfl ?_
  refine w_seq ?_
  refine w_region ?_
  refine wl_det rfl rfl rfl (op_assign rfl) ?_
  refine wl_nil ?_
  refine st_tn ?_
  refine w_seq ?_
  refine w_region ?_
  refine wl_op [] rfl rfl rfl rfl (op_lit0 (enc := SL.encZ) (lab := 5) tS22k) ?_
  rintro _ _ ⟨a5, c5, rfl, rfl⟩
  refine wl_det rfl rfl rfl (op_move rfl) ?_
  refine wl_op [5] rfl rfl rfl rfl (op_append (lab := 5) (lab' := 7) rfl rfl tP22k SL.enc1Z (Sl.app ha _) (by first | omega | (simp; omega)) (by first | omega | (simp; omega))) ?_
  rintro _ _ ⟨a7, c7, rfl, rfl⟩
  refine wl_det rfl rfl rfl (op_move rfl) ?_
  refine wl_op [7] rfl rfl rfl rfl (op_append (lab := 7) (lab' := 9) rfl rfl tP22k SL.enc1Z (Sl.app hb _) (by first | omega | (simp; omega)) (by first | omega | (simp; omega))) ?_
  rintro _ _ ⟨a9, c9, rfl, rfl⟩
  refine wl_op [] rfl rfl rfl rfl (op_fn Try.func17 rfl rfl rfl (sorted_any (l := [] ++ l ++ m) 10 (Sl.lab 9 rfl (by unfold maxLen; simp; omega)) (by simp; omega))) ?_
  rintro _ _ ⟨a10, c10, rfl, rfl⟩
  refine wl_det rfl rfl rfl (op_assign rfl) ?_
  refine wl_nil ?_
  refine st_tn ?_
  refine w_ret ?_
  refine st_ret (vs := [_]) [10] Try.results41 ⟨rfl, trivial⟩ rfl ?_
  refine ⟨[(lab, _)], rfl, ?_⟩
  exact ⟨_, _, rfl, rfl⟩

/-- A new list of runs, as pairs. -/
def NewR (l : List Run) (lab : Nat) (u : Value) (ρ : RL) : Prop := ∃ a c, u = .slice a l.length c ∧ ρ = [(lab, slW 37 encRun 2 (.slice a l.length c) l)]
theorem toRuns_hi {l : List Int} (h : SS l) {r : Run} (hr : r ∈ toRuns l) : r.1 ∈ l ∧ r.2 ∈ l := by
  obtain ⟨h1, h2, _⟩ := toRuns_ok _ rfl h.le
  have hle := h1.1 r hr
  exact ⟨(h2 r.1).1 ⟨r, hr, by omega, hle⟩, (h2 r.2).1 ⟨r, hr, hle, by omega⟩⟩
set_option maxHeartbeats 1000000 in
set_option maxRecDepth 100000 in
theorem rruns_any {σ : World} {F : List Res} {a : Option Addr} {c : Nat} {l : List Int} (lab : Nat) (h : Sl σ F encZ 1 (.slice a l.length c) l) (hl : l.length ≤ 1099511627776) (hs : SS l) (hb : ∀ x ∈ l, 0 ≤ x ∧ x ≤ 1099511627776) :
    FnT Try.prog σ F 48 [.slice a l.length c] [] (NewR (toRuns l) lab) := by
  refine fn_of 52 Try.func48 rfl Try.ntmps48 rfl ?_
  have hfl : ∀ i, i ≤ l.length → (toRuns (l.take i)).length ≤ i := fun i hi => by have := length_toRuns_le _ (l.take i) rfl; rw [List.length_take] at this; omega
  refine w_seq ?_
  refine w_region ?_
  refine wl_det rfl rfl rfl (op_assign rfl) ?_
  refine wl_nil ?_
  refine st_tn ?_
  refine w_seq ?_
  refine w_region ?_
  refine wl_det rfl rfl rfl (op_assign rfl) ?_
  refine wl_nil ?_
  refine st_tn ?_
  refine w_seq ?_
  refine w_seq ?_
  refine w_region ?_
  refine wl_det rfl rfl rfl (op_assign rfl) ?_
  refine wl_nil ?_
  refine st_tn ?_
  refine w_block ?_
  refine w_emp 3 (slO_nil 37 2) ?_
  refine w_loopK (X := Nat × Option Addr × Nat) (fun z => z.1 ≤ l.length) (fun z => [(3, .slice z.2.1 (toRuns (l.take z.1)).length z.2.2), (4, .int .i64 z.1)]) (fun z => [(3, slW 37 encRun 2 (.slice z.2.1 (toRuns (l.take z.1)).length z.2.2) (toRuns (l.take z.1)))]) (fun z => l.length - z.1) ((0, none, 0)) [(0, _)] [] (Nat.zero_le _) (.cons rfl (.cons rfl (.nil _))) (.cons rfl (.nil _)) [3] rfl (rfl) ?_
  rintro ⟨i, a3, c3⟩ hi
  refine w_norm2 (by dsimp only [List.cons_append, List.nil_append]) (by dsimp only [List.cons_append, List.nil_append]) ?_
  dsimp only at hi ⊢
  refine w_seq ?_
  refine w_seq ?_
  refine w_region ?_
  refine wl_det rfl rfl rfl (op_move rfl) ?_
  refine wl_det rfl rfl rfl (op_move rfl) ?_
  refine wl_det rfl rfl rfl (op_lenT rfl tS22k (Sl.ent (by first | exact Sl.app (by assumption) _ | exact Sl.app (Sl.app (by assumption) _) _))) ?_
  refine wl_det rfl rfl rfl (op_lss rfl rfl) ?_
  refine wl_nil ?_
  refine st_tn ?_
  refine w_cond_d rfl (fun hc9 => ?_) (fun hc9 => ?_)
  · -- c9.t
    obtain ⟨y, hy⟩ := getE (l := l) (i := i) (by omega)
    have hlt := ltE hy
    have hsl := hfl i hi
    have hsn := toRuns_snoc (l.take i) y
    rw [← take_snoc hy] at hsn
    have hRb : ∀ r ∈ toRuns (l.take i), 0 ≤ r.2 ∧ r.2 ≤ 1099511627776 ∧ r.2 < y ∧ r.1 ≤ r.2 := fun r hr => by
      have h2 := (toRuns_hi (hs.sublist (List.take_sublist i l)) hr).2
      have hyy := hs.sublist (List.take_sublist (i + 1) l)
      rw [take_snoc hy] at hyy
      have := (List.pairwise_append.1 hyy).2.2 r.2 h2 y (by simp)
      have := hb r.2 (List.mem_of_mem_take h2)
      have := (toRuns_ok _ rfl (SS.le (hs.sublist (List.take_sublist i l)))).1.1 r hr
      omega
    generalize hT : toRuns (l.take i) = T at *
    refine w_skip ?_
    refine st_tn ?_
    refine w_seq ?_
    refine w_block ?_
    refine w_seq ?_
    refine w_region ?_
    refine wl_det rfl rfl rfl (op_move rfl) ?_
    refine wl_det rfl rfl rfl (op_lenT rfl tS38k (Sl.ent (Sl.lab 3 rfl (by unfold maxLen; omega)))) ?_
    refine wl_det rfl rfl rfl (op_assign rfl) ?_
    refine wl_nil ?_
    refine st_tn ?_
    refine w_seq ?_
    refine w_cutL [(29, .bool (decide (0 < (T.length : Int) ∧ (T.getD (T.length - 1) (0, 0)).2 + 1 = y)))] [0, 3, 4, 5] [3] rfl (fun K' hK => ?_) ?_
    · -- cut r6
      by_cases hq : (0 : Int) < (T.length : Int)
      · -- hq True
        obtain ⟨z, hz⟩ := getE (l := T) (i := T.length - 1) (by omega)
        have hz' : T[((T.length : Int) - 1).toNat]? = some z := by rw [show ((T.length : Int) - 1).toNat = T.length - 1 by omega]; exact hz
        have hgd : T.getD (T.length - 1) (0, 0) = z := by rw [List.getD_eq_getElem?_getD, hz]; rfl
        have hzb := hRb z (List.mem_of_getElem? hz)
        refine w_draw (D := [⟨14, [], [], [], _, false, [], []⟩, ⟨15, [0], [], [], _, false, [], []⟩, ⟨16, [1], [], [], _, false, [], []⟩, ⟨17, [], [], [], _, false, [], []⟩, ⟨18, [], [], [], _, false, [], []⟩, ⟨19, [4], [], [], _, false, [], []⟩, ⟨20, [3, 5], [], [], _, false, [], []⟩, ⟨21, [6], [], [], _, false, [], []⟩, ⟨22, [7], [], [], _, false, [], []⟩, ⟨23, [8], [], [], _, false, [], []⟩, ⟨24, [], [], [], _, false, [], []⟩, ⟨25, [], [], [], _, false, [], []⟩, ⟨26, [10, 11], [], [], _, false, [], []⟩, ⟨27, [12], [], [], _, false, [], []⟩, ⟨28, [9, 13], [], [], _, false, [], []⟩, ⟨29, [2, 14], [], [], _, false, [], []⟩]) [] [5, 3, 0, 4] [⟨14, [], [], false, [], []⟩, ⟨15, [0], [], false, [], []⟩, ⟨16, [1], [], false, [], []⟩, ⟨17, [], [], false, [], []⟩, ⟨18, [], [], false, [], []⟩, ⟨19, [4], [], false, [], []⟩, ⟨20, [3, 5], [], false, [], []⟩, ⟨21, [6], [], false, [], []⟩, ⟨22, [7], [], false, [], []⟩, ⟨23, [8], [], false, [], []⟩, ⟨24, [], [], false, [], []⟩, ⟨25, [], [], false, [], []⟩, ⟨26, [10, 11], [], false, [], []⟩, ⟨27, [12], [], false, [], []⟩, ⟨28, [9, 13], [], false, [], []⟩, ⟨29, [2, 14], [], false, [], []⟩] tMixk (by rfl) (by kernel_rfl) (by rfl) (by rfl)
            ⟨.plain rfl (by intro X; exact op_move rfl),
            ⟨.plain rfl (by intro X; rintro _ _ ⟨rfl, rfl⟩; exact op_gtr rfl rfl),
            ⟨.plain rfl (by intro X; rintro _ _ ⟨rfl, rfl⟩; exact op_move rfl),
            ⟨.wanted rfl rfl rfl (by rintro _ _ ⟨rfl, rfl⟩; first | rfl | (exact congrArg Value.bool (decide_eq_true (by omega))) | (exact congrArg Value.bool (decide_eq_false (by omega))) | (simp; done) | (simp; omega) | (simp [*]; done)) (by intro X; exact op_move rfl),
            ⟨.wanted rfl rfl rfl (by rintro _ _ ⟨rfl, rfl⟩; first | rfl | (exact congrArg Value.bool (decide_eq_true (by omega))) | (exact congrArg Value.bool (decide_eq_false (by omega))) | (simp; done) | (simp; omega) | (simp [*]; done)) (by intro X; exact op_move rfl),
            ⟨.wanted rfl rfl rfl (by rintro _ _ ⟨rfl, rfl⟩; first | rfl | (exact congrArg Value.bool (decide_eq_true (by omega))) | (exact congrArg Value.bool (decide_eq_false (by omega))) | (simp; done) | (simp; omega) | (simp [*]; done)) (by intro X; rintro _ _ ⟨rfl, rfl⟩; exact op_sub' rfl rfl (by omega)),
            ⟨.wanted rfl rfl rfl (by rintro _ _ ⟨rfl, rfl⟩; first | rfl | (exact congrArg Value.bool (decide_eq_true (by omega))) | (exact congrArg Value.bool (decide_eq_false (by omega))) | (simp; done) | (simp; omega) | (simp [*]; done)) (by intro X; rintro _ _ ⟨rfl, rfl⟩ _ _ ⟨rfl, rfl⟩; exact op_idxZ rfl rfl tS38k (Sl.ent (Sl.lab 3 rfl (by unfold maxLen; omega))) (by omega) (by omega)),
            ⟨.wanted rfl rfl rfl (by rintro _ _ ⟨rfl, rfl⟩; first | rfl | (exact congrArg Value.bool (decide_eq_true (by omega))) | (exact congrArg Value.bool (decide_eq_false (by omega))) | (simp; done) | (simp; omega) | (simp [*]; done)) (by intro X; rintro _ _ ⟨rfl, rfl⟩; exact op_idxArr (i := 1) rfl rfl tR37k (Nat.le_of_ble_eq_true rfl)),
            ⟨.wanted rfl rfl rfl (by rintro _ _ ⟨rfl, rfl⟩; first | rfl | (exact congrArg Value.bool (decide_eq_true (by omega))) | (exact congrArg Value.bool (decide_eq_false (by omega))) | (simp; done) | (simp; omega) | (simp [*]; done)) (by intro X; rintro _ _ ⟨rfl, rfl⟩; exact op_ldxf rfl tO3k (Sl.lab 3 rfl (by unfold maxLen; omega)) (by assumption) (by rfl)),
            ⟨.wanted rfl rfl rfl (by rintro _ _ ⟨rfl, rfl⟩; first | rfl | (exact congrArg Value.bool (decide_eq_true (by omega))) | (exact congrArg Value.bool (decide_eq_false (by omega))) | (simp; done) | (simp; omega) | (simp [*]; done)) (by intro X; rintro _ _ ⟨rfl, rfl⟩; exact op_add' rfl rfl (by omega)),
            ⟨.wanted rfl rfl rfl (by rintro _ _ ⟨rfl, rfl⟩; first | rfl | (exact congrArg Value.bool (decide_eq_true (by omega))) | (exact congrArg Value.bool (decide_eq_false (by omega))) | (simp; done) | (simp; omega) | (simp [*]; done)) (by intro X; exact op_move rfl),
            ⟨.wanted rfl rfl rfl (by rintro _ _ ⟨rfl, rfl⟩; first | rfl | (exact congrArg Value.bool (decide_eq_true (by omega))) | (exact congrArg Value.bool (decide_eq_false (by omega))) | (simp; done) | (simp; omega) | (simp [*]; done)) (by intro X; exact op_move rfl),
            ⟨.wanted rfl rfl rfl (by rintro _ _ ⟨rfl, rfl⟩; first | rfl | (exact congrArg Value.bool (decide_eq_true (by omega))) | (exact congrArg Value.bool (decide_eq_false (by omega))) | (simp; done) | (simp; omega) | (simp [*]; done)) (by intro X; rintro _ _ ⟨rfl, rfl⟩ _ _ ⟨rfl, rfl⟩; exact op_idx rfl rfl tS22k (Sl.ent (by first | exact Sl.app (by assumption) _ | exact Sl.app (Sl.app (by assumption) _) _)) (by omega)),
            ⟨.wanted rfl rfl rfl (by rintro _ _ ⟨rfl, rfl⟩; first | rfl | (exact congrArg Value.bool (decide_eq_true (by omega))) | (exact congrArg Value.bool (decide_eq_false (by omega))) | (simp; done) | (simp; omega) | (simp [*]; done)) (by intro X; rintro _ _ ⟨rfl, rfl⟩; exact op_ldx rfl tO3k (by first | exact Sl.app (by assumption) _ | exact Sl.app (Sl.app (by assumption) _) _) (by assumption) (by rfl)),
            ⟨.wanted rfl rfl rfl (by rintro _ _ ⟨rfl, rfl⟩; first | rfl | (exact congrArg Value.bool (decide_eq_true (by omega))) | (exact congrArg Value.bool (decide_eq_false (by omega))) | (simp; done) | (simp; omega) | (simp [*]; done)) (by intro X; rintro _ _ ⟨rfl, rfl⟩ _ _ ⟨rfl, rfl⟩; exact op_eql rfl rfl),
            ⟨.plain rfl (by intro X; rintro _ _ ⟨rfl, rfl⟩ _ _ ⟨rfl, rfl⟩; exact op_pick_t (by first | rfl | (show some (Value.bool (decide _)) = _; rw [decide_eq_true (by omega)]) | (show some (Value.bool (decide _)) = _; rw [decide_eq_false (by omega)]) | (simp [ev, lk]; done) | (simp [ev, lk]; omega) | (simp [ev, lk, *]; done)) rfl),
            trivial⟩⟩⟩⟩⟩⟩⟩⟩⟩⟩⟩⟩⟩⟩⟩⟩ ?_
        rintro _ _ ⟨rfl, rfl⟩ _ _ ⟨rfl, rfl⟩ _ _ ⟨rfl, rfl⟩ _ _ ⟨rfl, rfl⟩ _ _ ⟨rfl, rfl⟩ _ _ ⟨rfl, rfl⟩ _ _ ⟨rfl, rfl⟩ _ _ ⟨rfl, rfl⟩ _ _ ⟨rfl, rfl⟩ _ _ ⟨rfl, rfl⟩ _ _ ⟨rfl, rfl⟩ _ _ ⟨rfl, rfl⟩ _ _ ⟨rfl, rfl⟩ _ _ ⟨rfl, rfl⟩ _ _ ⟨rfl, rfl⟩ _ _ ⟨rfl, rfl⟩
        refine wl_norm (e' := [(0, _), (3, _), (4, _), (5, _), (29, _)]) (.cons rfl (.cons rfl (.cons rfl (.cons rfl (.cons rfl (.nil _)))))) (by dsimp only [cond_false, cond_true, List.nil_append, List.cons_append]) ?_
        refine wl_nil ?_
        refine st_tn ?_
        exact cut_done1 [3] hK rfl (by first | (rw [decide_eq_decide]; omega) | (symm; rw [decide_eq_false_iff_not]; omega) | (symm; rw [decide_eq_true_iff]; omega) | (simp; done) | (simp; omega) | (simp [*]; done) | (simp [*]; omega)) (by rfl) rfl rfl
      · -- hq False
        refine w_draw (D := [⟨14, [], [], [], _, false, [], []⟩, ⟨15, [0], [], [], _, false, [], []⟩, ⟨16, [1], [], [], _, false, [], []⟩, ⟨17, [], [], [], Det undef, false, [], []⟩, ⟨18, [], [], [], Det undef, false, [], []⟩, ⟨19, [], [], [], Det undef, false, [], []⟩, ⟨20, [], [], [], Det undef, false, [], []⟩, ⟨21, [], [], [], Det undef, false, [], []⟩, ⟨22, [], [], [], Det undef, false, [], []⟩, ⟨23, [], [], [], Det undef, false, [], []⟩, ⟨24, [], [], [], Det undef, false, [], []⟩, ⟨25, [], [], [], Det undef, false, [], []⟩, ⟨26, [], [], [], Det undef, false, [], []⟩, ⟨27, [], [], [], Det undef, false, [], []⟩, ⟨28, [], [], [], Det undef, false, [], []⟩, ⟨29, [2, 14], [], [], _, false, [], []⟩]) [] [5, 3, 0, 4] [⟨14, [], [], false, [], []⟩, ⟨15, [0], [], false, [], []⟩, ⟨16, [1], [], false, [], []⟩, ⟨17, [], [], false, [], []⟩, ⟨18, [], [], false, [], []⟩, ⟨19, [], [], false, [], []⟩, ⟨20, [], [], false, [], []⟩, ⟨21, [], [], false, [], []⟩, ⟨22, [], [], false, [], []⟩, ⟨23, [], [], false, [], []⟩, ⟨24, [], [], false, [], []⟩, ⟨25, [], [], false, [], []⟩, ⟨26, [], [], false, [], []⟩, ⟨27, [], [], false, [], []⟩, ⟨28, [], [], false, [], []⟩, ⟨29, [2, 14], [], false, [], []⟩] tMixk (by rfl) (by kernel_rfl) (by rfl) (by rfl)
            ⟨.plain rfl (by intro X; exact op_move rfl),
            ⟨.plain rfl (by intro X; rintro _ _ ⟨rfl, rfl⟩; exact op_gtr rfl rfl),
            ⟨.plain rfl (by intro X; rintro _ _ ⟨rfl, rfl⟩; exact op_move rfl),
            ⟨.unwanted rfl rfl rfl (by rintro _ _ ⟨rfl, rfl⟩; exact congrArg (offB true) (by first | rfl | (exact congrArg Value.bool (decide_eq_true (by omega))) | (exact congrArg Value.bool (decide_eq_false (by omega))) | (simp; done) | (simp; omega) | (simp [*]; done) : _ = Value.bool false)) ⟨rfl, rfl⟩ rfl rfl,
            ⟨.unwanted rfl rfl rfl (by rintro _ _ ⟨rfl, rfl⟩; exact congrArg (offB true) (by first | rfl | (exact congrArg Value.bool (decide_eq_true (by omega))) | (exact congrArg Value.bool (decide_eq_false (by omega))) | (simp; done) | (simp; omega) | (simp [*]; done) : _ = Value.bool false)) ⟨rfl, rfl⟩ rfl rfl,
            ⟨.unwanted rfl rfl rfl (by rintro _ _ ⟨rfl, rfl⟩; exact congrArg (offB true) (by first | rfl | (exact congrArg Value.bool (decide_eq_true (by omega))) | (exact congrArg Value.bool (decide_eq_false (by omega))) | (simp; done) | (simp; omega) | (simp [*]; done) : _ = Value.bool false)) ⟨rfl, rfl⟩ rfl rfl,
            ⟨.unwanted rfl rfl rfl (by rintro _ _ ⟨rfl, rfl⟩; exact congrArg (offB true) (by first | rfl | (exact congrArg Value.bool (decide_eq_true (by omega))) | (exact congrArg Value.bool (decide_eq_false (by omega))) | (simp; done) | (simp; omega) | (simp [*]; done) : _ = Value.bool false)) ⟨rfl, rfl⟩ rfl rfl,
            ⟨.unwanted rfl rfl rfl (by rintro _ _ ⟨rfl, rfl⟩; exact congrArg (offB true) (by first | rfl | (exact congrArg Value.bool (decide_eq_true (by omega))) | (exact congrArg Value.bool (decide_eq_false (by omega))) | (simp; done) | (simp; omega) | (simp [*]; done) : _ = Value.bool false)) ⟨rfl, rfl⟩ rfl rfl,
            ⟨.unwanted rfl rfl rfl (by rintro _ _ ⟨rfl, rfl⟩; exact congrArg (offB true) (by first | rfl | (exact congrArg Value.bool (decide_eq_true (by omega))) | (exact congrArg Value.bool (decide_eq_false (by omega))) | (simp; done) | (simp; omega) | (simp [*]; done) : _ = Value.bool false)) ⟨rfl, rfl⟩ rfl rfl,
            ⟨.unwanted rfl rfl rfl (by rintro _ _ ⟨rfl, rfl⟩; exact congrArg (offB true) (by first | rfl | (exact congrArg Value.bool (decide_eq_true (by omega))) | (exact congrArg Value.bool (decide_eq_false (by omega))) | (simp; done) | (simp; omega) | (simp [*]; done) : _ = Value.bool false)) ⟨rfl, rfl⟩ rfl rfl,
            ⟨.unwanted rfl rfl rfl (by rintro _ _ ⟨rfl, rfl⟩; exact congrArg (offB true) (by first | rfl | (exact congrArg Value.bool (decide_eq_true (by omega))) | (exact congrArg Value.bool (decide_eq_false (by omega))) | (simp; done) | (simp; omega) | (simp [*]; done) : _ = Value.bool false)) ⟨rfl, rfl⟩ rfl rfl,
            ⟨.unwanted rfl rfl rfl (by rintro _ _ ⟨rfl, rfl⟩; exact congrArg (offB true) (by first | rfl | (exact congrArg Value.bool (decide_eq_true (by omega))) | (exact congrArg Value.bool (decide_eq_false (by omega))) | (simp; done) | (simp; omega) | (simp [*]; done) : _ = Value.bool false)) ⟨rfl, rfl⟩ rfl rfl,
            ⟨.unwanted rfl rfl rfl (by rintro _ _ ⟨rfl, rfl⟩; exact congrArg (offB true) (by first | rfl | (exact congrArg Value.bool (decide_eq_true (by omega))) | (exact congrArg Value.bool (decide_eq_false (by omega))) | (simp; done) | (simp; omega) | (simp [*]; done) : _ = Value.bool false)) ⟨rfl, rfl⟩ rfl rfl,
            ⟨.unwanted rfl rfl rfl (by rintro _ _ ⟨rfl, rfl⟩; exact congrArg (offB true) (by first | rfl | (exact congrArg Value.bool (decide_eq_true (by omega))) | (exact congrArg Value.bool (decide_eq_false (by omega))) | (simp; done) | (simp; omega) | (simp [*]; done) : _ = Value.bool false)) ⟨rfl, rfl⟩ rfl rfl,
            ⟨.unwanted rfl rfl rfl (by rintro _ _ ⟨rfl, rfl⟩; exact congrArg (offB true) (by first | rfl | (exact congrArg Value.bool (decide_eq_true (by omega))) | (exact congrArg Value.bool (decide_eq_false (by omega))) | (simp; done) | (simp; omega) | (simp [*]; done) : _ = Value.bool false)) ⟨rfl, rfl⟩ rfl rfl,
            ⟨.plain rfl (by intro X; rintro _ _ ⟨rfl, rfl⟩ _ _ ⟨rfl, rfl⟩; exact op_pick_f (by first | rfl | (show some (Value.bool (decide _)) = _; rw [decide_eq_true (by omega)]) | (show some (Value.bool (decide _)) = _; rw [decide_eq_false (by omega)]) | (simp [ev, lk]; done) | (simp [ev, lk]; omega) | (simp [ev, lk, *]; done)) rfl),
            trivial⟩⟩⟩⟩⟩⟩⟩⟩⟩⟩⟩⟩⟩⟩⟩⟩ ?_
        rintro _ _ ⟨rfl, rfl⟩ _ _ ⟨rfl, rfl⟩ _ _ ⟨rfl, rfl⟩ _ _ ⟨rfl, rfl⟩ _ _ ⟨rfl, rfl⟩ _ _ ⟨rfl, rfl⟩ _ _ ⟨rfl, rfl⟩ _ _ ⟨rfl, rfl⟩ _ _ ⟨rfl, rfl⟩ _ _ ⟨rfl, rfl⟩ _ _ ⟨rfl, rfl⟩ _ _ ⟨rfl, rfl⟩ _ _ ⟨rfl, rfl⟩ _ _ ⟨rfl, rfl⟩ _ _ ⟨rfl, rfl⟩ _ _ ⟨rfl, rfl⟩
        refine wl_norm (e' := [(0, _), (3, _), (4, _), (5, _), (29, _)]) (.cons rfl (.cons rfl (.cons rfl (.cons rfl (.cons rfl (.nil _)))))) (by dsimp only [cond_false, cond_true, List.nil_append, List.cons_append]) ?_
        refine wl_nil ?_
        refine st_tn ?_
        exact cut_done1 [3] hK rfl (by first | (rw [decide_eq_decide]; omega) | (symm; rw [decide_eq_false_iff_not]; omega) | (symm; rw [decide_eq_true_iff]; omega) | (simp; done) | (simp; omega) | (simp [*]; done) | (simp [*]; omega)) (by rfl) rfl rfl
    · -- behind r6
      show W _ _ _ _ _ [(29, _), (0, _), (3, _), (4, _), (5, _)] [(3, _)] _
      refine w_cond_d rfl (fun hc29 => ?_) (fun hc29 => ?_)
      · -- c29.t
        obtain ⟨z, hz⟩ := getE (l := T) (i := T.length - 1) (by omega)
        have hz' : T[((T.length : Int) - 1).toNat]? = some z := by rw [show ((T.length : Int) - 1).toNat = T.length - 1 by omega]; exact hz
        have hgd : T.getD (T.length - 1) (0, 0) = z := by rw [List.getD_eq_getElem?_getD, hz]; rfl
        have hzb := hRb z (List.mem_of_getElem? hz)
        rw [hgd] at hc29
        have hts : toRuns (l.take (i + 1)) = T.set ((T.length : Int) - 1).toNat (z.1, y) := by
          rw [hsn]
          have hne : T ≠ [] := fun e => by subst e; simp at hz
          obtain ⟨T', q, rfl⟩ := (List.eq_nil_or_concat T).resolve_left hne
          rw [List.concat_eq_append] at *
          have hi' : (((T' ++ [q]).length : Int) - 1).toNat = T'.length := by simp
          rw [hi'] at hz' ⊢
          simp at hz'; subst hz'
          rw [push_snoc, if_pos (by show y ≤ q.2 + 1; omega)]
          simp; omega
        have hlset : (T.set ((T.length : Int) - 1).toNat (z.1, y)).length = T.length := by simp
        refine w_draw (D := [⟨30, [], [], [], _, false, [], []⟩, ⟨31, [], [], [], _, false, [], []⟩, ⟨32, [1], [], [], _, false, [], []⟩, ⟨33, [], [], [], _, false, [], []⟩, ⟨34, [], [], [], _, false, [], []⟩, ⟨35, [3, 4], [], [], _, false, [], []⟩, ⟨36, [5], [], [], _, false, [], []⟩, ⟨37, [0, 2], [], [], _, false, [], []⟩]) [] [3, 5, 0, 4] [⟨30, [], [], false, [], []⟩, ⟨31, [], [], false, [], []⟩, ⟨32, [1], [], false, [], []⟩, ⟨33, [], [], false, [], []⟩, ⟨34, [], [], false, [], []⟩, ⟨35, [3, 4], [], false, [], []⟩, ⟨36, [5], [], false, [], []⟩, ⟨37, [0, 2], [], false, [], []⟩] tMixk (by rfl) (by kernel_rfl) (by rfl) (by rfl)
            ⟨.plain rfl (by intro X; exact op_move rfl),
            ⟨.plain rfl (by intro X; exact op_move rfl),
            ⟨.plain rfl (by intro X; rintro _ _ ⟨rfl, rfl⟩; exact op_sub' rfl rfl (by omega)),
            ⟨.plain rfl (by intro X; exact op_move rfl),
            ⟨.plain rfl (by intro X; exact op_move rfl),
            ⟨.plain rfl (by intro X; rintro _ _ ⟨rfl, rfl⟩ _ _ ⟨rfl, rfl⟩; exact op_idx rfl rfl tS22k (Sl.ent (by first | exact Sl.app (by assumption) _ | exact Sl.app (Sl.app (by assumption) _) _)) (by omega)),
            ⟨.plain rfl (by intro X; rintro _ _ ⟨rfl, rfl⟩; exact op_ldx rfl tO3k (by first | exact Sl.app (by assumption) _ | exact Sl.app (Sl.app (by assumption) _) _) (by assumption) (by rfl)),
            ⟨.plain rfl (by intro X; rintro _ _ ⟨rfl, rfl⟩ _ _ ⟨rfl, rfl⟩; exact op_idxZ rfl rfl tS38k (Sl.ent (Sl.lab 3 rfl (by unfold maxLen; omega))) (by omega) (by omega)),
            trivial⟩⟩⟩⟩⟩⟩⟩⟩ ?_
        rintro _ _ ⟨rfl, rfl⟩ _ _ ⟨rfl, rfl⟩ _ _ ⟨rfl, rfl⟩ _ _ ⟨rfl, rfl⟩ _ _ ⟨rfl, rfl⟩ _ _ ⟨rfl, rfl⟩ _ _ ⟨rfl, rfl⟩ _ _ ⟨rfl, rfl⟩
        refine wl_norm (e' := [(0, _), (3, _), (4, _), (36, _), (37, _)]) (.cons rfl (.cons rfl (.cons rfl (.cons rfl (.cons rfl (.nil _)))))) (by dsimp only [cond_false, cond_true, List.nil_append, List.cons_append]) ?_
        refine wl_det rfl rfl rfl (op_idxArr (i := 1) rfl rfl tR37k (Nat.le_of_ble_eq_true rfl)) ?_
        refine wl_op0 [3] rfl rfl rfl (op_storeX (lab := 3) (j := 1) (b' := (z.1, y)) rfl rfl tO3k rfl rfl rfl hz' (by decide) rfl) ?_
        rintro _ _ ⟨rfl, rfl⟩
        refine wl_nil ?_
        refine st_bn ?_
        refine st_tn ?_
        refine w_region ?_
        refine wl_det rfl rfl rfl (op_move rfl) ?_
        refine wl_det rfl rfl rfl (op_add' rfl rfl (by omega)) ?_
        refine wl_det rfl rfl rfl (op_assign rfl) ?_
        refine wl_nil ?_
        refine st_roundK (x := (i, a3, c3)) ((i + 1, a3, c3)) [3] (by show i + 1 ≤ _; omega) (by show l.length - (i + 1) < l.length - i; omega) (.cons (by rw [hts]; first | rfl | (rw [hlset]; rfl)) (.cons rfl (.nil _))) (.cons rfl (.nil _)) rfl (by rw [hts]; first | rfl | (rw [hlset]; rfl)) 
      · -- c29.f
        have hts : toRuns (l.take (i + 1)) = T ++ [(y, y)] := by
          rw [hsn]
          rcases List.eq_nil_or_concat T with rfl | ⟨T', q, rfl⟩
          · rfl
          · rw [List.concat_eq_append] at *
            rw [push_snoc, if_neg]
            have hq := hRb q (by simp)
            have : (T' ++ [q]).getD ((T' ++ [q]).length - 1) (0, 0) = q := by simp
            rw [this] at hc29
            show ¬ y ≤ q.2 + 1
            have : (0 : Int) < ((T' ++ [q]).length : Int) := by rw [List.length_append]; simp only [List.length_singleton]; omega
            omega
        refine w_draw (D := [⟨39, [], [], [], _, false, [], []⟩, ⟨40, [], [], [], _, false, [], []⟩, ⟨41, [], [], [], _, false, [], []⟩, ⟨42, [1, 2], [], [], _, false, [], []⟩, ⟨43, [3], [], [], _, false, [], []⟩, ⟨44, [], [], [], _, false, [], []⟩, ⟨45, [], [], [], _, false, [], []⟩, ⟨46, [5, 6], [], [], _, false, [], []⟩, ⟨47, [7], [], [], _, false, [], []⟩, ⟨48, [4, 8], [], [], _, false, [], []⟩, ⟨49, [9], [], [], _, false, [], []⟩]) [] [3, 0, 4] [⟨39, [], [], false, [], []⟩, ⟨40, [], [], false, [], []⟩, ⟨41, [], [], false, [], []⟩, ⟨42, [1, 2], [], false, [], []⟩, ⟨43, [3], [], false, [], []⟩, ⟨44, [], [], false, [], []⟩, ⟨45, [], [], false, [], []⟩, ⟨46, [5, 6], [], false, [], []⟩, ⟨47, [7], [], false, [], []⟩, ⟨48, [4, 8], [], false, [], []⟩, ⟨49, [9], [], false, [], []⟩] tMixk (by rfl) (by kernel_rfl) (by rfl) (by rfl)
            ⟨.plain rfl (by intro X; exact op_move rfl),
            ⟨.plain rfl (by intro X; exact op_move rfl),
            ⟨.plain rfl (by intro X; exact op_move rfl),
            ⟨.plain rfl (by intro X; rintro _ _ ⟨rfl, rfl⟩ _ _ ⟨rfl, rfl⟩; exact op_idx rfl rfl tS22k (Sl.ent (by first | exact Sl.app (by assumption) _ | exact Sl.app (Sl.app (by assumption) _) _)) (by omega)),
            ⟨.plain rfl (by intro X; rintro _ _ ⟨rfl, rfl⟩; exact op_ldx rfl tO3k (by first | exact Sl.app (by assumption) _ | exact Sl.app (Sl.app (by assumption) _) _) (by assumption) (by rfl)),
            ⟨.plain rfl (by intro X; exact op_move rfl),
            ⟨.plain rfl (by intro X; exact op_move rfl),
            ⟨.plain rfl (by intro X; rintro _ _ ⟨rfl, rfl⟩ _ _ ⟨rfl, rfl⟩; exact op_idx rfl rfl tS22k (Sl.ent (by first | exact Sl.app (by assumption) _ | exact Sl.app (Sl.app (by assumption) _) _)) (by omega)),
            ⟨.plain rfl (by intro X; rintro _ _ ⟨rfl, rfl⟩; exact op_ldx rfl tO3k (by first | exact Sl.app (by assumption) _ | exact Sl.app (Sl.app (by assumption) _) _) (by assumption) (by rfl)),
            ⟨.plain rfl (by intro X; rintro _ _ ⟨rfl, rfl⟩ _ _ ⟨rfl, rfl⟩; exact op_buildArr tC37k rfl rfl),
            ⟨.plain rfl (by intro X; rintro _ _ ⟨rfl, rfl⟩; exact op_buildSlice (enc := encRun) (l := [(_, _)]) (lab := 49) tL38_1k rfl rfl (fun _ => rfl) rfl),
            trivial⟩⟩⟩⟩⟩⟩⟩⟩⟩⟩⟩ ?_
        rintro _ _ ⟨rfl, rfl⟩ _ _ ⟨rfl, rfl⟩ _ _ ⟨rfl, rfl⟩ _ _ ⟨rfl, rfl⟩ _ _ ⟨rfl, rfl⟩ _ _ ⟨rfl, rfl⟩ _ _ ⟨rfl, rfl⟩ _ _ ⟨rfl, rfl⟩ _ _ ⟨rfl, rfl⟩ _ _ ⟨rfl, rfl⟩ _ _ ⟨a49, c49, rfl, rfl⟩
        refine wl_norm (e' := [(0, _), (4, _), (39, _), (49, _)]) (.cons rfl (.cons rfl (.cons rfl (.cons rfl (.nil _))))) (by dsimp only [cond_false, cond_true, List.nil_append, List.cons_append]) ?_
        refine wl_op [3] rfl rfl rfl rfl (op_append (lab := 3) (lab' := 50) rfl rfl tP38k enc1Run (Sl.lab 49 rfl (by simp [maxLen])) (by first | omega | (simp; done) | (simp; omega) | (simp [*]; omega)) (by first | omega | (simp; done) | (simp; omega) | (simp [*]; omega))) ?_
        rintro _ _ ⟨a50, c50, rfl, rfl⟩
        refine wl_det rfl rfl rfl (op_assign rfl) ?_
        refine wl_nil ?_
        refine st_bn ?_
        refine st_tn ?_
        refine w_region ?_
        refine wl_det rfl rfl rfl (op_move rfl) ?_
        refine wl_det rfl rfl rfl (op_add' rfl rfl (by omega)) ?_
        refine wl_det rfl rfl rfl (op_assign rfl) ?_
        refine wl_nil ?_
        refine st_roundK (x := (i, a3, c3)) ((i + 1, a50, c50)) [50] (by show i + 1 ≤ _; omega) (by show l.length - (i + 1) < l.length - i; omega) (.cons (by rw [hts]; first | rfl | (rw [hlset]; rfl)) (.cons rfl (.nil _))) (.cons rfl (.nil _)) rfl (by rw [hts]; first | rfl | (rw [hlset]; rfl)) 
  · -- c9.f
    refine w_exit ?_
    refine st_te ?_
    refine st_te ?_
    refine st_be ?_
    refine st_tn ?_
    refine w_seq ?_
    refine w_region ?_
    refine wl_det rfl rfl rfl (op_move rfl) ?_
    refine wl_det rfl rfl rfl (op_assign rfl) ?_
    refine wl_nil ?_
    refine st_tn ?_
    refine w_ret ?_
    refine st_ret (vs := [_]) [3] Try.results48 ⟨rfl, trivial⟩ rfl ?_
    refine ⟨[(lab, _)], rfl, ?_⟩
    rw [take_all (by omega)]; exact ⟨_, _, rfl, rfl⟩

theorem WF.upto {x y : Int} (h : x < y) : WF [(x, y - 1)] := ⟨fun r hr => by simp at hr; subst hr; show x ≤ y - 1; omega, List.pairwise_singleton _ _⟩
end Go.Proofs.Ytkknlfhncheflaa
