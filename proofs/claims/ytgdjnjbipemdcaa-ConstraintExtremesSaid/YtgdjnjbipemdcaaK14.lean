/- Contracts: checks; the law Limits (layer 9). Conditions: none. -/
import Derived.Test.YtgdjnjbipemdcaaK13
namespace Go.Proofs.Ytgdjnjbipemdcaa
open Go Go.SL Go.RowKit Go.ConM
set_option linter.unusedVariables false
set_option linter.unusedSimpArgs false
theorem tA34n : aggB Try.prog 34 3 = true := by kernel_rfl
theorem tB34n : placesB Try.prog 34 = some ([(0, 1), (1, 1), (2, 1)], [Value.int .i64 0, Value.int .i64 0, Value.int .i64 0]) := by kernel_rfl
theorem tF34_0n : fieldB Try.prog 34 0 0 = true := by kernel_rfl
theorem tF34_1n : fieldB Try.prog 34 1 1 = true := by kernel_rfl
theorem tF34_2n : fieldB Try.prog 34 2 2 = true := by kernel_rfl
theorem tL24_1n : zerosB Try.prog 24 34 3 1 = some [Value.int .i64 0, Value.int .i64 0, Value.int .i64 0] := by kernel_rfl
theorem tMixn : Try.prog.follows .mixedOrders = true := by kernel_rfl
theorem tN34n : (Try.prog.info? 34).bind (·.zero) = some (Value.agg #[Value.int .i64 0, Value.int .i64 0, Value.int .i64 0]) := by kernel_rfl
theorem tO3n : oneB Try.prog 3 = true := by kernel_rfl
theorem tP24n : appB Try.prog 24 34 3 24 = true := by kernel_rfl
theorem tS24n : sliceB Try.prog 24 34 3 = true := by kernel_rfl
theorem tS26n : sliceB Try.prog 26 3 1 = true := by kernel_rfl
theorem tZ34n : (Try.prog.info? 34).map (·.size) = some 3 := by kernel_rfl

def OkN (x : Int) : Prop := -1048576 ≤ x ∧ x ≤ 1048576
def OkC (c : Con) : Prop := OkN c.f ∧ OkN c.t ∧ -4398046511104 ≤ c.b ∧ c.b ≤ 4398046511104
instance : DecidablePred OkC := fun c => by unfold OkC OkN; exact inferInstance
/-- The error of a system. -/
def chkE (l : List Con) : Int := if l.length > 4096 then 6 else if ∀ c ∈ l, OkC c then (if (nodes l).length > 256 then 6 else 0) else 2
set_option maxHeartbeats 400000 in
set_option maxRecDepth 100000 in
theorem wrong_any {σ : World} {F : List Res} (x m : Int) (hm : 0 ≤ m ∧ m ≤ 4398046511104) :
    FnT Try.prog σ F 55 [.int .i64 x, .int .i64 m] [] (fun u ρ => u = .bool (decide (x < -m ∨ x > m)) ∧ ρ = []) := by
  refine fn_of 14 Try.func55 rfl Try.ntmps55 rfl ?_
  refine w_seq ?_
  refine w_region ?_
  refine wl_det rfl rfl rfl (op_assign rfl) ?_
  refine wl_nil ?_
  refine st_tn ?_
  refine w_seq ?_
  refine w_region ?_
  refine wl_det rfl rfl rfl (op_move rfl) ?_
  refine wl_det rfl rfl rfl (op_move rfl) ?_
  refine wl_det rfl rfl rfl (op_neg rfl (by omega)) ?_
  refine wl_det rfl rfl rfl (op_lss rfl rfl) ?_
  refine wl_det rfl rfl rfl (op_move rfl) ?_
  refine wl_gsplit (t := 9) rfl (fun hg9 => ?_) (fun hg9 => ?_)
  · -- 9 is True
    refine wl_unwanted rfl rfl rfl rfl rfl rfl rfl rfl ?_
    refine wl_unwanted rfl rfl rfl rfl rfl rfl rfl rfl ?_
    refine wl_unwanted rfl rfl rfl rfl rfl rfl rfl rfl ?_
    refine wl_det rfl rfl rfl (op_pick_t rfl rfl) ?_
    refine wl_det rfl rfl rfl (op_assign rfl) ?_
    refine wl_nil ?_
    refine st_tn ?_
    refine w_ret ?_
    refine st_ret (vs := [_]) [] Try.results55 ⟨rfl, trivial⟩ rfl ?_
    refine ⟨_, rfl, ?_⟩
    refine ⟨?_, rfl⟩; first | (simp only [retv]; done) | (simp only [retv]; (congr 1; first | (rw [decide_eq_decide]; omega) | (symm; rw [decide_eq_false_iff_not]; omega) | (symm; rw [decide_eq_true_iff]; omega)))
  · -- 9 is False
    refine wl_wanted_det rfl rfl rfl rfl rfl rfl rfl (op_move rfl) ?_
    refine wl_wanted_det rfl rfl rfl rfl rfl rfl rfl (op_move rfl) ?_
    refine wl_wanted_det rfl rfl rfl rfl rfl rfl rfl (op_gtr rfl rfl) ?_
    refine wl_det rfl rfl rfl (op_pick_f rfl rfl) ?_
    refine wl_det rfl rfl rfl (op_assign rfl) ?_
    refine wl_nil ?_
    refine st_tn ?_
    refine w_ret ?_
    refine st_ret (vs := [_]) [] Try.results55 ⟨rfl, trivial⟩ rfl ?_
    refine ⟨_, rfl, ?_⟩
    refine ⟨?_, rfl⟩; first | (simp only [retv]; done) | (simp only [retv]; (congr 1; first | (rw [decide_eq_decide]; omega) | (symm; rw [decide_eq_false_iff_not]; omega) | (symm; rw [decide_eq_true_iff]; omega)))

set_option maxHeartbeats 2000000 in
set_option maxRecDepth 100000 in
theorem chk_any {σ : World} {F : List Res} {a : Option Addr} {c : Nat} {l : List Con} (h : Sl σ F encC 3 (.slice a l.length c) l) (hb : InB l) (hl : l.length ≤ 16384) :
    FnT Try.prog σ F 29 [.slice a l.length c] [] (fun u ρ => u = .int .i64 (chkE l) ∧ ρ = []) := by
  refine fn_of 36 Try.func29 rfl Try.ntmps29 rfl ?_
  have hle := h.i64
  have hnl := len_nodes l
  refine w_seq ?_
  refine w_region ?_
  refine wl_det rfl rfl rfl (op_assign rfl) ?_
  refine wl_nil ?_
  refine st_tn ?_
  refine w_seq ?_
  refine w_seq ?_
  refine w_region ?_
  refine wl_det rfl rfl rfl (op_move rfl) ?_
  refine wl_det rfl rfl rfl (op_lenT rfl tS24n (Sl.ent (by first | exact Sl.app (by assumption) _ | exact Sl.app (Sl.app (by assumption) _) _))) ?_
  refine wl_det rfl rfl rfl (op_gtr rfl rfl) ?_
  refine wl_nil ?_
  refine st_tn ?_
  refine w_cond_d rfl (fun hc8 => ?_) (fun hc8 => ?_)
  · -- c8.t
    refine w_seq ?_
    refine w_region ?_
    refine wl_det rfl rfl rfl (op_assign rfl) ?_
    refine wl_nil ?_
    refine st_tn ?_
    refine w_ret ?_
    refine st_tr ?_
    refine st_ret (vs := [_]) [] Try.results29 ⟨rfl, trivial⟩ rfl ?_
    refine ⟨_, rfl, ?_⟩
    unfold chkE; rw [if_pos (by omega)]; exact ⟨rfl, rfl⟩
  · -- c8.f
    refine w_skip ?_
    refine st_tn ?_
    refine w_seq ?_
    refine w_region ?_
    refine wl_det rfl rfl rfl (op_assign rfl) ?_
    refine wl_nil ?_
    refine st_tn ?_
    refine w_seq ?_
    refine w_seq ?_
    refine w_region ?_
    refine wl_det rfl rfl rfl (op_move rfl) ?_
    refine wl_det rfl rfl rfl (op_lenT rfl tS24n (Sl.ent (by first | exact Sl.app (by assumption) _ | exact Sl.app (Sl.app (by assumption) _) _))) ?_
    refine wl_det rfl rfl rfl (op_move rfl) ?_
    refine wl_nil ?_
    refine st_tn ?_
    refine w_block ?_
    refine w_loopQ (X := Nat) (fun z => z ≤ l.length ∧ ∀ c ∈ l.take z, OkC c) (fun z => [(11, .int .i64 (z))]) (fun _ => []) (fun z => l.length - z) (0) [(0, _), (3, _), (9, _), (10, _)] [] [] rfl (rfl) (.cons rfl (.nil _)) (.cons rfl (.cons rfl (.cons rfl (.cons rfl (.nil _))))) (by
        try dsimp only
        exact ⟨Nat.zero_le _, by simp⟩) ?_
    rintro i ⟨hi, hall⟩
    refine w_norm2 (by dsimp only [List.cons_append, List.nil_append]) (by dsimp only [List.cons_append, List.nil_append]) ?_
    try dsimp only at hi hall ⊢
    refine w_seq ?_
    refine w_region ?_
    refine wl_det rfl rfl rfl (op_lss rfl rfl) ?_
    refine wl_nil ?_
    refine st_tn ?_
    refine w_seq ?_
    refine w_cond_d rfl (fun hc12 => ?_) (fun hc12 => ?_)
    · -- c12.t
      obtain ⟨x, hx⟩ := getE (l := l) (i := i) (by omega)
      have hlt := ltE hx
      refine w_skip ?_
      refine st_tn ?_
      refine w_seq ?_
      refine w_block ?_
      refine w_seq ?_
      refine w_region ?_
      refine wl_det rfl rfl rfl (op_idx rfl rfl tS24n (Sl.ent (by first | exact Sl.app (by assumption) _ | exact Sl.app (Sl.app (by assumption) _) _)) (by omega)) ?_
      refine wl_det rfl rfl rfl (op_ldxA rfl tA34n (by first | exact Sl.app (by assumption) _ | exact Sl.app (Sl.app (by assumption) _) _) (by assumption) (by rfl) (by rfl)) ?_
      refine wl_op [] rfl rfl rfl rfl (op_alloc (l := 5) tN34n) ?_
      rintro _ _ ⟨b5, rfl, rfl⟩
      refine wl_op0 [5] rfl rfl rfl (op_store rfl rfl tZ34n (by rfl) (by rfl) (by exact Nat.le_of_ble_eq_true rfl)) ?_
      rintro _ _ ⟨rfl, rfl⟩
      refine wl_nil ?_
      refine st_tn ?_
      refine w_seq ?_
      refine w_cutL [(30, .bool (decide (¬ OkC x)))] [0, 3, 9, 10, 11] [5] rfl (fun K' hK => ?_) ?_
      · -- cut r7
        refine w_region ?_
        refine wl_det rfl rfl rfl (op_move rfl) ?_
        refine wl_det rfl rfl rfl (op_fieldAddr (off := 0) rfl tF34_0n) ?_
        refine wl_det rfl rfl rfl (op_load1 rfl tO3n (Ent.lab (l := 5) rfl (says_cel 0))) ?_
        refine wl_det rfl rfl rfl (op_fnv Try.func55 rfl rfl rfl rfl (wrong_any _ _ (by omega))) ?_
        refine wl_det rfl rfl rfl (op_move rfl) ?_
        refine wl_gsplit (t := 19) rfl (fun hg19 => ?_) (fun hg19 => ?_)
        · -- 19 is True
          refine wl_unwanted rfl rfl rfl rfl rfl rfl rfl rfl ?_
          refine wl_unwanted rfl rfl rfl rfl rfl rfl rfl rfl ?_
          refine wl_unwanted rfl rfl rfl rfl rfl rfl rfl rfl ?_
          refine wl_unwanted rfl rfl rfl rfl rfl rfl rfl rfl ?_
          refine wl_det rfl rfl rfl (op_pick_t rfl rfl) ?_
          refine wl_det rfl rfl rfl (op_move rfl) ?_
          refine wl_unwanted rfl rfl rfl rfl rfl rfl rfl rfl ?_
          refine wl_unwanted rfl rfl rfl rfl rfl rfl rfl rfl ?_
          refine wl_unwanted rfl rfl rfl rfl rfl rfl rfl rfl ?_
          refine wl_unwanted rfl rfl rfl rfl rfl rfl rfl rfl ?_
          refine wl_det rfl rfl rfl (op_pick_t rfl rfl) ?_
          refine wl_nil ?_
          refine st_tn ?_
          exact cut_done1 [5] hK rfl (by first | (unfold OkC OkN; rw [decide_eq_decide]; omega) | (symm; rw [decide_eq_true_iff]; unfold OkC OkN; omega)) (by rfl) rfl rfl
        · -- 19 is False
          refine wl_wanted_det rfl rfl rfl rfl rfl rfl rfl (op_move rfl) ?_
          refine wl_wanted_det rfl rfl rfl rfl rfl rfl rfl (op_fieldAddr (off := 1) rfl tF34_1n) ?_
          refine wl_wanted_det rfl rfl rfl rfl rfl rfl rfl (op_load1 rfl tO3n (Ent.lab (l := 5) rfl (says_cel 1))) ?_
          refine wl_wanted_det rfl rfl rfl rfl rfl rfl rfl (op_fnv Try.func55 rfl rfl rfl rfl (wrong_any _ _ (by omega))) ?_
          refine wl_det rfl rfl rfl (op_pick_f rfl rfl) ?_
          refine wl_det rfl rfl rfl (op_move rfl) ?_
          refine wl_gsplit (t := 25) rfl (fun hg25 => ?_) (fun hg25 => ?_)
          · -- 25 is True
            refine wl_unwanted rfl rfl rfl rfl rfl rfl rfl rfl ?_
            refine wl_unwanted rfl rfl rfl rfl rfl rfl rfl rfl ?_
            refine wl_unwanted rfl rfl rfl rfl rfl rfl rfl rfl ?_
            refine wl_unwanted rfl rfl rfl rfl rfl rfl rfl rfl ?_
            refine wl_det rfl rfl rfl (op_pick_t rfl rfl) ?_
            refine wl_nil ?_
            refine st_tn ?_
            exact cut_done1 [5] hK rfl (by first | (unfold OkC OkN; rw [decide_eq_decide]; omega) | (symm; rw [decide_eq_true_iff]; unfold OkC OkN; omega)) (by rfl) rfl rfl
          · -- 25 is False
            refine wl_wanted_det rfl rfl rfl rfl rfl rfl rfl (op_move rfl) ?_
            refine wl_wanted_det rfl rfl rfl rfl rfl rfl rfl (op_fieldAddr (off := 2) rfl tF34_2n) ?_
            refine wl_wanted_det rfl rfl rfl rfl rfl rfl rfl (op_load1 rfl tO3n (Ent.lab (l := 5) rfl (says_cel 2))) ?_
            refine wl_wanted_det rfl rfl rfl rfl rfl rfl rfl (op_fnv Try.func55 rfl rfl rfl rfl (wrong_any _ _ (by omega))) ?_
            refine wl_det rfl rfl rfl (op_pick_f rfl rfl) ?_
            refine wl_nil ?_
            refine st_tn ?_
            exact cut_done1 [5] hK rfl (by first | (unfold OkC OkN; rw [decide_eq_decide]; omega) | (symm; rw [decide_eq_true_iff]; unfold OkC OkN; omega)) (by rfl) rfl rfl
      · -- behind r7
        show W _ _ _ _ _ [(30, _), (0, _), (3, _), (9, _), (10, _), (11, _)] [(5, _)] _
        refine w_cond_d rfl (fun hc30 => ?_) (fun hc30 => ?_)
        · -- c30.t
          refine w_seq ?_
          refine w_region ?_
          refine wl_det rfl rfl rfl (op_assign rfl) ?_
          refine wl_nil ?_
          refine st_tn ?_
          refine w_ret ?_
          refine st_br ?_
          refine st_tr ?_
          refine st_tr ?_
          refine st_br ?_
          refine st_tr ?_
          refine st_ret (vs := [_]) [] Try.results29 ⟨rfl, trivial⟩ rfl ?_
          refine ⟨_, rfl, ?_⟩
          unfold chkE; rw [if_neg (by omega), if_neg (fun hall => hc30 (hall x (List.mem_of_getElem? hx)))]; exact ⟨rfl, rfl⟩
        · -- c30.f
          refine w_skip ?_
          refine st_bn ?_
          refine st_tn ?_
          refine w_region ?_
          refine wl_det rfl rfl rfl (op_add' rfl rfl (by omega)) ?_
          refine wl_det rfl rfl rfl (op_move rfl) ?_
          refine wl_nil ?_
          refine st_roundQ (x := i) (i + 1) [] rfl (rfl) (.cons rfl (.nil _)) (.cons rfl (.cons rfl (.cons rfl (.cons rfl (.nil _))))) (by
              try dsimp only
              refine ⟨by omega, fun c hc => ?_⟩
              rw [take_snoc hx] at hc
              rcases List.mem_append.1 hc with hc | hc
              · exact hall c hc
              · rw [List.mem_singleton] at hc; subst hc; exact Classical.not_not.1 hc30) (by
              try dsimp only
              omega) 
    · -- c12.f
      refine w_exit ?_
      refine st_te ?_
      refine st_te ?_
      refine st_be ?_
      refine st_tn ?_
      refine w_seq ?_
      refine w_seq ?_
      refine w_region ?_
      refine wl_det rfl rfl rfl (op_move rfl) ?_
      refine wl_op [] rfl rfl rfl rfl (op_fn Try.func36 rfl rfl rfl (nodes_any 33 (by first | exact Sl.app (by assumption) _ | exact Sl.app (Sl.app (by assumption) _) _) (by assumption) (by omega))) ?_
      rintro _ _ ⟨a33, c33, rfl, rfl⟩
      refine wl_det rfl rfl rfl (op_lenT rfl tS26n (Sl.ent (Sl.lab 33 rfl (by unfold maxLen; omega)))) ?_
      refine wl_det rfl rfl rfl (op_gtr rfl rfl) ?_
      refine wl_nil ?_
      refine st_tn ?_
      refine w_cond_d rfl (fun hc35 => ?_) (fun hc35 => ?_)
      · -- c35.t
        refine w_seq ?_
        refine w_region ?_
        refine wl_det rfl rfl rfl (op_assign rfl) ?_
        refine wl_nil ?_
        refine st_tn ?_
        refine w_ret ?_
        refine st_tr ?_
        refine st_ret (vs := [_]) [] Try.results29 ⟨rfl, trivial⟩ rfl ?_
        refine ⟨_, rfl, ?_⟩
        rw [take_all (by omega)] at hall; unfold chkE; rw [if_neg (by omega), if_pos hall, if_pos (by omega)]; exact ⟨rfl, rfl⟩
      · -- c35.f
        refine w_skip ?_
        refine st_tn ?_
        refine w_seq ?_
        refine w_region ?_
        refine wl_det rfl rfl rfl (op_assign rfl) ?_
        refine wl_nil ?_
        refine st_tn ?_
        refine w_ret ?_
        refine st_ret (vs := [_]) [] Try.results29 ⟨rfl, trivial⟩ rfl ?_
        refine ⟨_, rfl, ?_⟩
        rw [take_all (by omega)] at hall; unfold chkE; rw [if_neg (by omega), if_pos hall, if_neg (by omega)]; exact ⟨rfl, rfl⟩

set_option maxHeartbeats 2000000 in
set_option maxRecDepth 100000 in
theorem rchk_any {σ : World} {F : List Res} {a : Option Addr} {c : Nat} {l : List Con} (h : Sl σ F encC 3 (.slice a l.length c) l) (hb : InB l) (hl : l.length ≤ 16384) :
    FnT Try.prog σ F 30 [.slice a l.length c] [] (fun u ρ => u = .int .i64 (chkE l) ∧ ρ = []) := by
  refine fn_of 49 Try.func30 rfl Try.ntmps30 rfl ?_
  have hle := h.i64
  have hnl := len_nodes l
  refine w_seq ?_
  refine w_region ?_
  refine wl_det rfl rfl rfl (op_assign rfl) ?_
  refine wl_nil ?_
  refine st_tn ?_
  refine w_seq ?_
  refine w_seq ?_
  refine w_region ?_
  refine wl_det rfl rfl rfl (op_move rfl) ?_
  refine wl_det rfl rfl rfl (op_lenT rfl tS24n (Sl.ent (by first | exact Sl.app (by assumption) _ | exact Sl.app (Sl.app (by assumption) _) _))) ?_
  refine wl_det rfl rfl rfl (op_gtr rfl rfl) ?_
  refine wl_nil ?_
  refine st_tn ?_
  refine w_cond_d rfl (fun hc6 => ?_) (fun hc6 => ?_)
  · -- c6.t
    refine w_seq ?_
    refine w_region ?_
    refine wl_det rfl rfl rfl (op_assign rfl) ?_
    refine wl_nil ?_
    refine st_tn ?_
    refine w_ret ?_
    refine st_tr ?_
    refine st_ret (vs := [_]) [] Try.results30 ⟨rfl, trivial⟩ rfl ?_
    refine ⟨_, rfl, ?_⟩
    unfold chkE; rw [if_pos (by omega)]; exact ⟨rfl, rfl⟩
  · -- c6.f
    refine w_skip ?_
    refine st_tn ?_
    refine w_seq ?_
    refine w_seq ?_
    refine w_region ?_
    refine wl_det rfl rfl rfl (op_assign rfl) ?_
    refine wl_nil ?_
    refine st_tn ?_
    refine w_block ?_
    refine w_loopQ (X := Nat) (fun z => z ≤ l.length ∧ ∀ c ∈ l.take z, OkC c) (fun z => [(3, .int .i64 (z))]) (fun _ => []) (fun z => l.length - z) (0) [(0, _)] [] [] rfl (rfl) (.cons rfl (.nil _)) (.cons rfl (.nil _)) (by
        try dsimp only
        exact ⟨Nat.zero_le _, by simp⟩) ?_
    rintro i ⟨hi, hall⟩
    refine w_norm2 (by dsimp only [List.cons_append, List.nil_append]) (by dsimp only [List.cons_append, List.nil_append]) ?_
    try dsimp only at hi hall ⊢
    refine w_seq ?_
    refine w_seq ?_
    refine w_region ?_
    refine wl_det rfl rfl rfl (op_move rfl) ?_
    refine wl_det rfl rfl rfl (op_move rfl) ?_
    refine wl_det rfl rfl rfl (op_lenT rfl tS24n (Sl.ent (by first | exact Sl.app (by assumption) _ | exact Sl.app (Sl.app (by assumption) _) _))) ?_
    refine wl_det rfl rfl rfl (op_lss rfl rfl) ?_
    refine wl_nil ?_
    refine st_tn ?_
    refine w_cond_d rfl (fun hc10 => ?_) (fun hc10 => ?_)
    · -- c10.t
      obtain ⟨x, hx⟩ := getE (l := l) (i := i) (by omega)
      have hlt := ltE hx
      refine w_skip ?_
      refine st_tn ?_
      refine w_seq ?_
      refine w_block ?_
      refine w_seq ?_
      refine w_cutL [(44, .bool (decide (¬ OkC x)))] [0, 3] [] rfl (fun K' hK => ?_) ?_
      · -- cut r6
        refine w_region ?_
        refine wl_det rfl rfl rfl (op_move rfl) ?_
        refine wl_det rfl rfl rfl (op_move rfl) ?_
        refine wl_det rfl rfl rfl (op_idx rfl rfl tS24n (Sl.ent (by first | exact Sl.app (by assumption) _ | exact Sl.app (Sl.app (by assumption) _) _)) (by omega)) ?_
        refine wl_det rfl rfl rfl (op_fieldAddr (off := 0) rfl tF34_0n) ?_
        refine wl_det rfl rfl rfl (op_ldxf rfl tO3n (by first | exact Sl.app (by assumption) _ | exact Sl.app (Sl.app (by assumption) _) _) (by assumption) (by rfl)) ?_
        refine wl_det rfl rfl rfl (op_fn Try.func56 rfl rfl rfl (rnode_any _)) ?_
        refine wl_det rfl rfl rfl (op_not_d rfl) ?_
        refine wl_det rfl rfl rfl (op_move rfl) ?_
        refine wl_gsplit (t := 20) rfl (fun hg20 => ?_) (fun hg20 => ?_)
        · -- 20 is True
          refine wl_unwanted rfl rfl rfl rfl rfl rfl rfl rfl ?_
          refine wl_unwanted rfl rfl rfl rfl rfl rfl rfl rfl ?_
          refine wl_unwanted rfl rfl rfl rfl rfl rfl rfl rfl ?_
          refine wl_unwanted rfl rfl rfl rfl rfl rfl rfl rfl ?_
          refine wl_unwanted rfl rfl rfl rfl rfl rfl rfl rfl ?_
          refine wl_unwanted rfl rfl rfl rfl rfl rfl rfl rfl ?_
          refine wl_unwanted rfl rfl rfl rfl rfl rfl rfl rfl ?_
          refine wl_det rfl rfl rfl (op_pick_t rfl rfl) ?_
          refine wl_det rfl rfl rfl (op_move rfl) ?_
          refine wl_unwanted rfl rfl rfl rfl rfl rfl rfl rfl ?_
          refine wl_unwanted rfl rfl rfl rfl rfl rfl rfl rfl ?_
          refine wl_unwanted rfl rfl rfl rfl rfl rfl rfl rfl ?_
          refine wl_unwanted rfl rfl rfl rfl rfl rfl rfl rfl ?_
          refine wl_unwanted rfl rfl rfl rfl rfl rfl rfl rfl ?_
          refine wl_unwanted rfl rfl rfl rfl rfl rfl rfl rfl ?_
          refine wl_det rfl rfl rfl (op_pick_t rfl rfl) ?_
          refine wl_det rfl rfl rfl (op_move rfl) ?_
          refine wl_unwanted rfl rfl rfl rfl rfl rfl rfl rfl ?_
          refine wl_unwanted rfl rfl rfl rfl rfl rfl rfl rfl ?_
          refine wl_unwanted rfl rfl rfl rfl rfl rfl rfl rfl ?_
          refine wl_unwanted rfl rfl rfl rfl rfl rfl rfl rfl ?_
          refine wl_unwanted rfl rfl rfl rfl rfl rfl rfl rfl ?_
          refine wl_unwanted rfl rfl rfl rfl rfl rfl rfl rfl ?_
          refine wl_det rfl rfl rfl (op_pick_t rfl rfl) ?_
          refine wl_nil ?_
          refine st_tn ?_
          exact cut_done1 [] hK rfl (by first | (unfold OkC OkN; rw [decide_eq_decide]; omega) | (symm; rw [decide_eq_true_iff]; unfold OkC OkN; omega) | (symm; rw [decide_eq_false_iff_not]; unfold OkC OkN; omega)) (by rfl) rfl rfl
        · -- 20 is False
          refine wl_wanted_det rfl rfl rfl rfl rfl rfl rfl (op_move rfl) ?_
          refine wl_wanted_det rfl rfl rfl rfl rfl rfl rfl (op_move rfl) ?_
          refine wl_wanted_det rfl rfl rfl rfl rfl rfl rfl (op_idx rfl rfl tS24n (Sl.ent (by first | exact Sl.app (by assumption) _ | exact Sl.app (Sl.app (by assumption) _) _)) (by omega)) ?_
          refine wl_wanted_det rfl rfl rfl rfl rfl rfl rfl (op_fieldAddr (off := 1) rfl tF34_1n) ?_
          refine wl_wanted_det rfl rfl rfl rfl rfl rfl rfl (op_ldxf rfl tO3n (by first | exact Sl.app (by assumption) _ | exact Sl.app (Sl.app (by assumption) _) _) (by assumption) (by rfl)) ?_
          refine wl_wanted_det rfl rfl rfl rfl rfl rfl rfl (op_fn Try.func56 rfl rfl rfl (rnode_any _)) ?_
          refine wl_wanted_det rfl rfl rfl rfl rfl rfl rfl (op_not_d rfl) ?_
          refine wl_det rfl rfl rfl (op_pick_f rfl rfl) ?_
          refine wl_det rfl rfl rfl (op_move rfl) ?_
          refine wl_gsplit (t := 29) rfl (fun hg29 => ?_) (fun hg29 => ?_)
          · -- 29 is True
            refine wl_unwanted rfl rfl rfl rfl rfl rfl rfl rfl ?_
            refine wl_unwanted rfl rfl rfl rfl rfl rfl rfl rfl ?_
            refine wl_unwanted rfl rfl rfl rfl rfl rfl rfl rfl ?_
            refine wl_unwanted rfl rfl rfl rfl rfl rfl rfl rfl ?_
            refine wl_unwanted rfl rfl rfl rfl rfl rfl rfl rfl ?_
            refine wl_unwanted rfl rfl rfl rfl rfl rfl rfl rfl ?_
            refine wl_det rfl rfl rfl (op_pick_t rfl rfl) ?_
            refine wl_det rfl rfl rfl (op_move rfl) ?_
            refine wl_unwanted rfl rfl rfl rfl rfl rfl rfl rfl ?_
            refine wl_unwanted rfl rfl rfl rfl rfl rfl rfl rfl ?_
            refine wl_unwanted rfl rfl rfl rfl rfl rfl rfl rfl ?_
            refine wl_unwanted rfl rfl rfl rfl rfl rfl rfl rfl ?_
            refine wl_unwanted rfl rfl rfl rfl rfl rfl rfl rfl ?_
            refine wl_unwanted rfl rfl rfl rfl rfl rfl rfl rfl ?_
            refine wl_det rfl rfl rfl (op_pick_t rfl rfl) ?_
            refine wl_nil ?_
            refine st_tn ?_
            exact cut_done1 [] hK rfl (by first | (unfold OkC OkN; rw [decide_eq_decide]; omega) | (symm; rw [decide_eq_true_iff]; unfold OkC OkN; omega) | (symm; rw [decide_eq_false_iff_not]; unfold OkC OkN; omega)) (by rfl) rfl rfl
          · -- 29 is False
            refine wl_wanted_det rfl rfl rfl rfl rfl rfl rfl (op_move rfl) ?_
            refine wl_wanted_det rfl rfl rfl rfl rfl rfl rfl (op_move rfl) ?_
            refine wl_wanted_det rfl rfl rfl rfl rfl rfl rfl (op_idx rfl rfl tS24n (Sl.ent (by first | exact Sl.app (by assumption) _ | exact Sl.app (Sl.app (by assumption) _) _)) (by omega)) ?_
            refine wl_wanted_det rfl rfl rfl rfl rfl rfl rfl (op_fieldAddr (off := 2) rfl tF34_2n) ?_
            refine wl_wanted_det rfl rfl rfl rfl rfl rfl rfl (op_ldxf rfl tO3n (by first | exact Sl.app (by assumption) _ | exact Sl.app (Sl.app (by assumption) _) _) (by assumption) (by rfl)) ?_
            refine wl_wanted_det rfl rfl rfl rfl rfl rfl rfl (op_lss rfl rfl) ?_
            refine wl_det rfl rfl rfl (op_pick_f rfl rfl) ?_
            refine wl_det rfl rfl rfl (op_move rfl) ?_
            refine wl_gsplit (t := 37) rfl (fun hg37 => ?_) (fun hg37 => ?_)
            · -- 37 is True
              refine wl_unwanted rfl rfl rfl rfl rfl rfl rfl rfl ?_
              refine wl_unwanted rfl rfl rfl rfl rfl rfl rfl rfl ?_
              refine wl_unwanted rfl rfl rfl rfl rfl rfl rfl rfl ?_
              refine wl_unwanted rfl rfl rfl rfl rfl rfl rfl rfl ?_
              refine wl_unwanted rfl rfl rfl rfl rfl rfl rfl rfl ?_
              refine wl_unwanted rfl rfl rfl rfl rfl rfl rfl rfl ?_
              refine wl_det rfl rfl rfl (op_pick_t rfl rfl) ?_
              refine wl_nil ?_
              refine st_tn ?_
              exact cut_done1 [] hK rfl (by first | (unfold OkC OkN; rw [decide_eq_decide]; omega) | (symm; rw [decide_eq_true_iff]; unfold OkC OkN; omega) | (symm; rw [decide_eq_false_iff_not]; unfold OkC OkN; omega)) (by rfl) rfl rfl
            · -- 37 is False
              refine wl_wanted_det rfl rfl rfl rfl rfl rfl rfl (op_move rfl) ?_
              refine wl_wanted_det rfl rfl rfl rfl rfl rfl rfl (op_move rfl) ?_
              refine wl_wanted_det rfl rfl rfl rfl rfl rfl rfl (op_idx rfl rfl tS24n (Sl.ent (by first | exact Sl.app (by assumption) _ | exact Sl.app (Sl.app (by assumption) _) _)) (by omega)) ?_
              refine wl_wanted_det rfl rfl rfl rfl rfl rfl rfl (op_fieldAddr (off := 2) rfl tF34_2n) ?_
              refine wl_wanted_det rfl rfl rfl rfl rfl rfl rfl (op_ldxf rfl tO3n (by first | exact Sl.app (by assumption) _ | exact Sl.app (Sl.app (by assumption) _) _) (by assumption) (by rfl)) ?_
              refine wl_wanted_det rfl rfl rfl rfl rfl rfl rfl (op_gtr rfl rfl) ?_
              refine wl_det rfl rfl rfl (op_pick_f rfl rfl) ?_
              refine wl_nil ?_
              refine st_tn ?_
              exact cut_done1 [] hK rfl (by first | (unfold OkC OkN; rw [decide_eq_decide]; omega) | (symm; rw [decide_eq_true_iff]; unfold OkC OkN; omega) | (symm; rw [decide_eq_false_iff_not]; unfold OkC OkN; omega)) (by rfl) rfl rfl
      · -- behind r6
        show W _ _ _ _ _ [(44, _), (0, _), (3, _)] [] _
        refine w_cond_d rfl (fun hc44 => ?_) (fun hc44 => ?_)
        · -- c44.t
          refine w_seq ?_
          refine w_region ?_
          refine wl_det rfl rfl rfl (op_assign rfl) ?_
          refine wl_nil ?_
          refine st_tn ?_
          refine w_ret ?_
          refine st_br ?_
          refine st_tr ?_
          refine st_tr ?_
          refine st_br ?_
          refine st_tr ?_
          refine st_ret (vs := [_]) [] Try.results30 ⟨rfl, trivial⟩ rfl ?_
          refine ⟨_, rfl, ?_⟩
          unfold chkE; rw [if_neg (by omega), if_neg (fun hall => hc44 (hall x (List.mem_of_getElem? hx)))]; exact ⟨rfl, rfl⟩
        · -- c44.f
          refine w_skip ?_
          refine st_bn ?_
          refine st_tn ?_
          refine w_region ?_
          refine wl_det rfl rfl rfl (op_move rfl) ?_
          refine wl_det rfl rfl rfl (op_add' rfl rfl (by omega)) ?_
          refine wl_det rfl rfl rfl (op_assign rfl) ?_
          refine wl_nil ?_
          refine st_roundQ (x := i) (i + 1) [] rfl (rfl) (.cons rfl (.nil _)) (.cons rfl (.nil _)) (by
              try dsimp only
              refine ⟨by omega, fun c hc => ?_⟩
              rw [take_snoc hx] at hc
              rcases List.mem_append.1 hc with hc | hc
              · exact hall c hc
              · rw [List.mem_singleton] at hc; subst hc; exact Classical.not_not.1 hc44) (by
              try dsimp only
              omega) 
    · -- c10.f
      refine w_exit ?_
      refine st_te ?_
      refine st_te ?_
      refine st_be ?_
      refine st_tn ?_
      refine w_seq ?_
      refine w_seq ?_
      refine w_region ?_
      refine wl_det rfl rfl rfl (op_move rfl) ?_
      refine wl_op [] rfl rfl rfl rfl (op_fn Try.func32 rfl rfl rfl (rnodes_any 46 (by first | exact Sl.app (by assumption) _ | exact Sl.app (Sl.app (by assumption) _) _) (by assumption) (by omega))) ?_
      rintro _ _ ⟨a46, c46, rfl, rfl⟩
      refine wl_det rfl rfl rfl (op_lenT rfl tS26n (Sl.ent (Sl.lab 46 rfl (by unfold maxLen; omega)))) ?_
      refine wl_det rfl rfl rfl (op_gtr rfl rfl) ?_
      refine wl_nil ?_
      refine st_tn ?_
      refine w_cond_d rfl (fun hc48 => ?_) (fun hc48 => ?_)
      · -- c48.t
        refine w_seq ?_
        refine w_region ?_
        refine wl_det rfl rfl rfl (op_assign rfl) ?_
        refine wl_nil ?_
        refine st_tn ?_
        refine w_ret ?_
        refine st_tr ?_
        refine st_ret (vs := [_]) [] Try.results30 ⟨rfl, trivial⟩ rfl ?_
        refine ⟨_, rfl, ?_⟩
        rw [take_all (by omega)] at hall; unfold chkE; rw [if_neg (by omega), if_pos hall, if_pos (by omega)]; exact ⟨rfl, rfl⟩
      · -- c48.f
        refine w_skip ?_
        refine st_tn ?_
        refine w_seq ?_
        refine w_region ?_
        refine wl_det rfl rfl rfl (op_assign rfl) ?_
        refine wl_nil ?_
        refine st_tn ?_
        refine w_ret ?_
        refine st_ret (vs := [_]) [] Try.results30 ⟨rfl, trivial⟩ rfl ?_
        refine ⟨_, rfl, ?_⟩
        rw [take_all (by omega)] at hall; unfold chkE; rw [if_neg (by omega), if_pos hall, if_neg (by omega)]; exact ⟨rfl, rfl⟩

theorem nodes_rep {c : Con} {n : Nat} (h : 0 < n) : nodes (List.replicate n c) = nodes [c] := by
  refine SS.ext (nodes_ss _) (nodes_ss _) fun x => ?_
  rw [mem_nodes, mem_nodes]
  constructor
  · rintro ⟨d, hd, h⟩; rw [(List.mem_replicate.1 hd).2] at h; exact ⟨c, by simp, h⟩
  · rintro ⟨d, hd, h'⟩; rw [List.mem_singleton] at hd; subst hd; exact ⟨d, List.mem_replicate.2 ⟨by omega, rfl⟩, h'⟩
theorem chk_rep {c : Con} {n : Nat} (h : 0 < n) (hn : n ≤ 4096) : chkE (List.replicate n c) = chkE [c] := by
  unfold chkE
  rw [nodes_rep h]
  have h1 : (∀ d ∈ List.replicate n c, OkC d) ↔ ∀ d ∈ [c], OkC d := by
    constructor
    · intro h2 d hd; rw [List.mem_singleton] at hd; subst hd; exact h2 d (List.mem_replicate.2 ⟨by omega, rfl⟩)
    · intro h2 d hd; rw [(List.mem_replicate.1 hd).2]; exact h2 c (by simp)
  rw [if_neg (show ¬ (List.replicate n c).length > 4096 by simp; omega), if_neg (show ¬ [c].length > 4096 by simp)]
  by_cases h2 : ∀ d ∈ [c], OkC d
  · rw [if_pos (h1.2 h2), if_pos h2]
  · rw [if_neg (fun h => h2 (h1.1 h)), if_neg h2]
theorem chk_more {l : List Con} (h : l.length > 4096) : chkE l = 6 := by unfold chkE; rw [if_pos h]
def chainC (n : Nat) : List Con := (List.range n).map fun i : Nat => ⟨(i : Int), (i : Int) + 1, 0⟩
theorem chain_len (n : Nat) : (chainC n).length = n := by unfold chainC; simp
theorem chain_nodes {n : Nat} (h : 0 < n) : (nodes (chainC n)).length = n + 1 := by
  have : (List.range (n + 1)).map (fun i : Nat => (i : Int)) = nodes (chainC n) := nodes_eq (by
      unfold SS; rw [List.pairwise_map]
      exact List.pairwise_lt_range.imp fun h => by omega) fun x => by
    unfold chainC
    constructor
    · intro hx
      obtain ⟨i, hi, rfl⟩ := List.mem_map.1 hx
      have := List.mem_range.1 hi
      by_cases h1 : i = 0
      · subst h1; exact ⟨_, List.mem_map.2 ⟨0, List.mem_range.2 (by omega), rfl⟩, .inl rfl⟩
      · exact ⟨_, List.mem_map.2 ⟨i - 1, List.mem_range.2 (by omega), rfl⟩, .inr (by dsimp only; omega)⟩
    · rintro ⟨c, hc, hx⟩
      obtain ⟨i, hi, rfl⟩ := List.mem_map.1 hc
      have := List.mem_range.1 hi
      rcases hx with rfl | rfl
      · exact List.mem_map.2 ⟨i, List.mem_range.2 (by omega), rfl⟩
      · exact List.mem_map.2 ⟨i + 1, List.mem_range.2 (by omega), by simp⟩
  rw [← this]; simp
theorem chk_chain {n : Nat} (h : 0 < n) (hn : n ≤ 300) : chkE (chainC n) = if n + 1 > 256 then 6 else 0 := by
  have h1 : ∀ c ∈ chainC n, OkC c := fun c hc => by
    obtain ⟨i, hi, rfl⟩ := List.mem_map.1 hc
    have := List.mem_range.1 hi
    unfold OkC OkN; dsimp only; omega
  unfold chkE
  rw [if_neg (by rw [chain_len]; omega), if_pos h1, chain_nodes h]
set_option maxHeartbeats 2000000 in
set_option maxRecDepth 100000 in
theorem lawLimits_any {σ : World} {F : List Res} (cf ct cb m : Int) (hx : I64 cf) (hy : I64 ct) (hz : I64 cb) (hm : 0 ≤ m ∧ m ≤ 255) :
    FnT Try.prog σ F 9 [.agg #[.int .i64 cf, .int .i64 ct, .int .i64 cb], .int .u8 m] [] (fun u ρ => u = .bool true ∧ ρ = []) := by
  refine fn_of 60 Try.func9 rfl Try.ntmps9 rfl ?_
  obtain ⟨C, hC⟩ : ∃ C : Con, C = ⟨cf, ct, cb⟩ := ⟨_, rfl⟩
  refine w_seq ?_
  refine w_region ?_
  refine wl_op [] rfl rfl rfl rfl (op_box (T := 34) (l := 2) rfl) ?_
  rintro _ _ ⟨b2, rfl, rfl⟩
  refine wl_det rfl rfl rfl (op_assign rfl) ?_
  refine wl_nil ?_
  refine st_tn ?_
  refine w_seq ?_
  refine w_seq ?_
  refine w_region ?_
  refine wl_det rfl rfl rfl (op_fn Try.func15 rfl rfl rfl (known_any)) ?_
  refine wl_det rfl rfl rfl (op_not_t rfl) ?_
  refine wl_nil ?_
  refine st_tn ?_
  refine w_cond_f (rfl) ?_
  refine w_skip ?_
  refine st_tn ?_
  refine w_seq ?_
  refine w_region ?_
  refine wl_det rfl rfl rfl (op_assign rfl) ?_
  refine wl_det rfl rfl rfl (op_assign rfl) ?_
  refine wl_nil ?_
  refine st_tn ?_
  refine w_seq ?_
  refine w_seq ?_
  refine w_region ?_
  refine wl_det rfl rfl rfl (op_assign rfl) ?_
  refine wl_nil ?_
  refine st_tn ?_
  refine w_block ?_
  refine w_emp 5 (slO_nil 34 3) ?_
  refine w_loopQ (X := Nat × List Con × Option Addr × Nat) (fun z => z.1 ≤ 4096 ∧ z.2.1 = List.replicate z.1 (⟨cf, ct, cb⟩ : Con)) (fun z => [(7, .int .i64 (z.1)), (5, .slice (z.2.2.1) (z.2.1).length (z.2.2.2))]) (fun z => [(5, slW 34 encC 3 (.slice (z.2.2.1) (z.2.1).length (z.2.2.2)) (z.2.1))]) (fun z => 4096 - z.1) ((0, [], none, 0)) [(1, _), (2, _), (6, _)] [(2, _)] [5, 2] rfl (rfl) (.cons rfl (.cons rfl (.nil _))) (.cons rfl (.cons rfl (.cons rfl (.nil _)))) (by
      try dsimp only
      exact ⟨Nat.zero_le _, rfl⟩) ?_
  rintro ⟨i, out, a_out, c_out⟩ ⟨hi, ho⟩
  refine w_norm2 (by dsimp only [List.cons_append, List.nil_append]) (by dsimp only [List.cons_append, List.nil_append]) ?_
  try dsimp only at hi ho ⊢
  refine w_seq ?_
  refine w_seq ?_
  refine w_region ?_
  refine wl_det rfl rfl rfl (op_move rfl) ?_
  refine wl_det rfl rfl rfl (op_lss rfl rfl) ?_
  refine wl_nil ?_
  refine st_tn ?_
  refine w_cond_d rfl (fun hc14 => ?_) (fun hc14 => ?_)
  · -- c14.t
    have hol : out.length ≤ 4096 := by rw [ho]; simp; omega
    refine w_skip ?_
    refine st_tn ?_
    refine w_seq ?_
    refine w_block ?_
    refine w_region ?_
    refine wl_det rfl rfl rfl (op_move rfl) ?_
    refine wl_det rfl rfl rfl (op_loadA rfl tA34n (Ent.lab (l := 2) rfl (says_cel 0)) (Nat.le_of_ble_eq_true rfl)) ?_
    refine wl_op [] rfl rfl rfl rfl (op_buildSlice (enc := encC) (l := [(⟨cf, ct, cb⟩ : Con)]) (lab := 19) tL24_1n rfl rfl (fun _ => rfl) rfl) ?_
    rintro _ _ ⟨a19, c19, rfl, rfl⟩
    refine wl_op [5] rfl rfl rfl rfl (op_append (lab := 5) (lab' := 20) rfl rfl tP24n enc1C (Sl.lab 19 rfl (by simp [maxLen])) (by first | omega | (simp; done) | (simp; omega) | (simp [*]; omega)) (by first | omega | (simp; done) | (simp; omega) | (simp [*]; omega))) ?_
    rintro _ _ ⟨a20, c20, rfl, rfl⟩
    refine wl_det rfl rfl rfl (op_assign rfl) ?_
    refine wl_nil ?_
    refine st_bn ?_
    refine st_tn ?_
    refine w_region ?_
    refine wl_det rfl rfl rfl (op_move rfl) ?_
    refine wl_det rfl rfl rfl (op_add' rfl rfl (by omega)) ?_
    refine wl_det rfl rfl rfl (op_assign rfl) ?_
    refine wl_nil ?_
    refine st_roundQ (x := (i, out, a_out, c_out)) ((i + 1, _, _, _)) [20, 2] rfl (rfl) (.cons rfl (.cons rfl (.nil _))) (.cons rfl (.cons rfl (.cons rfl (.nil _)))) (by
        try dsimp only
        exact ⟨by omega, by rw [ho, List.replicate_succ']⟩) (by
        try dsimp only
        omega) 
  · -- c14.f
    refine w_exit ?_
    refine st_te ?_
    refine st_te ?_
    refine st_be ?_
    refine st_tn ?_
    refine w_seq ?_
    have hi0 : i = 4096 := by omega
    subst hi0
    have hol : out.length = 4096 := by rw [ho]; simp
    have hrep : chkE out = chkE [(⟨cf, ct, cb⟩ : Con)] := by rw [ho, chk_rep (by omega) (by omega)]
    have hI2 : InB [(⟨cf, ct, cb⟩ : Con)] := by intro d hd; rw [List.mem_singleton] at hd; subst hd; exact ⟨hx, hy, hz⟩
    have hI1 : InB out := by intro d hd; rw [ho] at hd; rw [(List.mem_replicate.1 hd).2]; exact ⟨hx, hy, hz⟩
    have hI3 : InB (out ++ [(⟨cf, ct, cb⟩ : Con)]) := by intro d hd; rcases List.mem_append.1 hd with hd | hd; (· exact hI1 d hd); (· exact hI2 d hd)
    have hl1 : [(⟨cf, ct, cb⟩ : Con)].length = 1 := rfl
    have hl2 : (out ++ [(⟨cf, ct, cb⟩ : Con)]).length = 4097 := by rw [List.length_append, hol, hl1]
    have hmore : chkE (out ++ [(⟨cf, ct, cb⟩ : Con)]) = 6 := chk_more (by simp; omega)
    refine w_region ?_
    refine wl_det rfl rfl rfl (op_move rfl) ?_
    refine wl_det rfl rfl rfl (op_remN rfl rfl (by omega) (by omega)) ?_
    refine wl_det rfl rfl rfl (op_convI64 rfl (by rw [Try.underlying5]; rfl) Try.underlying3 (by omega)) ?_
    refine wl_det rfl rfl rfl (op_add' rfl rfl (by omega)) ?_
    refine wl_det rfl rfl rfl (op_assign rfl) ?_
    refine wl_nil ?_
    refine st_tn ?_
    refine w_seq ?_
    refine w_seq ?_
    refine w_region ?_
    refine wl_det rfl rfl rfl (op_assign rfl) ?_
    refine wl_nil ?_
    refine st_tn ?_
    refine w_block ?_
    refine w_emp 6 (slO_nil 34 3) ?_
    refine w_loopQ (X := Nat × List Con × Option Addr × Nat) (fun z => (z.1 : Int) ≤ 254 + m % 4 ∧ z.2.1 = chainC z.1) (fun z => [(9, .int .i64 (z.1)), (6, .slice (z.2.2.1) (z.2.1).length (z.2.2.2))]) (fun z => [(6, slW 34 encC 3 (.slice (z.2.2.1) (z.2.1).length (z.2.2.2)) (z.2.1))]) (fun z => 300 - z.1) ((0, [], none, 0)) [(2, _), (5, _), (8, _)] [(5, _), (2, _)] [6, 5, 2] rfl (rfl) (.cons rfl (.cons rfl (.nil _))) (.cons rfl (.cons rfl (.cons rfl (.nil _)))) (by
        try dsimp only
        exact ⟨by omega, rfl⟩) ?_
    rintro ⟨i, ch, a_ch, c_ch⟩ ⟨hi2, hch⟩
    refine w_norm2 (by dsimp only [List.cons_append, List.nil_append]) (by dsimp only [List.cons_append, List.nil_append]) ?_
    try dsimp only at hi2 hch ⊢
    refine w_seq ?_
    refine w_seq ?_
    refine w_region ?_
    refine wl_det rfl rfl rfl (op_move rfl) ?_
    refine wl_det rfl rfl rfl (op_move rfl) ?_
    refine wl_det rfl rfl rfl (op_lss rfl rfl) ?_
    refine wl_nil ?_
    refine st_tn ?_
    refine w_cond_d rfl (fun hc27 => ?_) (fun hc27 => ?_)
    · -- c27.t
      have hol : ch.length ≤ 300 := by rw [hch, chain_len]; omega
      refine w_skip ?_
      refine st_tn ?_
      refine w_seq ?_
      refine w_block ?_
      refine w_region ?_
      refine wl_det rfl rfl rfl (op_move rfl) ?_
      refine wl_det rfl rfl rfl (op_move rfl) ?_
      refine wl_det rfl rfl rfl (op_move rfl) ?_
      refine wl_det rfl rfl rfl (op_add' rfl rfl (by omega)) ?_
      refine wl_det rfl rfl rfl (op_build tB34n rfl rfl) ?_
      refine wl_op [] rfl rfl rfl rfl (op_buildSlice (enc := encC) (l := [(⟨i, i + 1, 0⟩ : Con)]) (lab := 35) tL24_1n rfl rfl (fun _ => rfl) rfl) ?_
      rintro _ _ ⟨a35, c35, rfl, rfl⟩
      refine wl_op [6] rfl rfl rfl rfl (op_append (lab := 6) (lab' := 36) rfl rfl tP24n enc1C (Sl.lab 35 rfl (by simp [maxLen])) (by first | omega | (simp; done) | (simp; omega) | (simp [*]; omega)) (by first | omega | (simp; done) | (simp; omega) | (simp [*]; omega))) ?_
      rintro _ _ ⟨a36, c36, rfl, rfl⟩
      refine wl_det rfl rfl rfl (op_assign rfl) ?_
      refine wl_nil ?_
      refine st_bn ?_
      refine st_tn ?_
      refine w_region ?_
      refine wl_det rfl rfl rfl (op_move rfl) ?_
      refine wl_det rfl rfl rfl (op_add' rfl rfl (by omega)) ?_
      refine wl_det rfl rfl rfl (op_assign rfl) ?_
      refine wl_nil ?_
      refine st_roundQ (x := (i, ch, a_ch, c_ch)) ((i + 1, _, _, _)) [36, 5, 2] rfl (rfl) (.cons rfl (.cons rfl (.nil _))) (.cons rfl (.cons rfl (.cons rfl (.nil _)))) (by
          try dsimp only
          exact ⟨by omega, by rw [hch]; unfold chainC; rw [List.range_succ, List.map_append]; rfl⟩) (by
          try dsimp only
          omega) 
    · -- c27.f
      refine w_exit ?_
      refine st_te ?_
      refine st_te ?_
      refine st_be ?_
      refine st_tn ?_
      refine w_seq ?_
      have hi0 : (i : Int) = 254 + m % 4 := by omega
      have hcl : ch.length ≤ 300 := by rw [hch, chain_len]; omega
      have hI4 : InB ch := by
        intro d hd
        rw [hch] at hd
        obtain ⟨k, hk, rfl⟩ := List.mem_map.1 hd
        have := List.mem_range.1 hk
        unfold I64; dsimp only; omega
      have hcc := chk_chain (n := i) (by omega) (by omega)
      rw [← hch] at hcc
      refine w_region ?_
      refine wl_det rfl rfl rfl (op_assign rfl) ?_
      refine wl_nil ?_
      refine st_tn ?_
      refine w_seq ?_
      refine w_seq ?_
      refine w_region ?_
      refine wl_det rfl rfl rfl (op_move rfl) ?_
      refine wl_det rfl rfl rfl (op_add' rfl rfl (by omega)) ?_
      refine wl_det rfl rfl rfl (op_gtr rfl rfl) ?_
      refine wl_nil ?_
      refine st_tn ?_
      refine w_cond_d rfl (fun hc39 => ?_) (fun hc39 => ?_)
      · -- c39.t
        refine w_region ?_
        refine wl_det rfl rfl rfl (op_assign rfl) ?_
        refine wl_nil ?_
        refine st_tn ?_
        refine w_seq ?_
        refine w_drawW (fun β => [⟨40, [], [], [], noW (_), false, [], []⟩, ⟨41, [0], [], [], noW (_), false, [10], []⟩, ⟨42, [], [], [], noW (_), false, [], []⟩, ⟨43, [2], [], [], fun w => DetW _ _, false, [], []⟩, ⟨44, [3], [], [], noW (_), false, [], []⟩, ⟨45, [1, 4], [], [], noW (_), false, [], []⟩, ⟨46, [5], [], [], noW (_), false, [], []⟩, ⟨47, [], [], [], noW (_), false, [], []⟩, ⟨48, [], [], [], noW (_), false, [], []⟩, ⟨49, [8], [], [], fun w => DetW _ _, false, [], []⟩, ⟨50, [7, 9], [], [(5, _)], fun w => DetW _ _, false, [], []⟩, ⟨51, [10], [], [], noW (_), false, [], []⟩, ⟨52, [11], [], [], noW (_), false, [], []⟩, ⟨53, [6, 12], [], [], noW (_), false, [], []⟩, ⟨54, [13], [], [], noW (_), false, [], []⟩, ⟨55, [], [], [], noW (_), false, [], []⟩, ⟨56, [15], [], [], noW (_), false, [], []⟩, ⟨57, [], [], [], noW (_), false, [], []⟩, ⟨58, [16, 17], [], [], noW (_), false, [], []⟩, ⟨59, [14, 18], [], [], noW (_), false, [], []⟩]) [5] [5, 2, 6, 10] [⟨40, [], [], false, [], []⟩, ⟨41, [0], [], false, [10], []⟩, ⟨42, [], [], false, [], []⟩, ⟨43, [2], [], false, [], []⟩, ⟨44, [3], [], false, [], []⟩, ⟨45, [1, 4], [], false, [], []⟩, ⟨46, [5], [], false, [], []⟩, ⟨47, [], [], false, [], []⟩, ⟨48, [], [], false, [], []⟩, ⟨49, [8], [], false, [], []⟩, ⟨50, [7, 9], [], false, [], []⟩, ⟨51, [10], [], false, [], []⟩, ⟨52, [11], [], false, [], []⟩, ⟨53, [6, 12], [], false, [], []⟩, ⟨54, [13], [], false, [], []⟩, ⟨55, [], [], false, [], []⟩, ⟨56, [15], [], false, [], []⟩, ⟨57, [], [], false, [], []⟩, ⟨58, [16, 17], [], false, [], []⟩, ⟨59, [14, 18], [], false, [], []⟩] [[], [], [], [], [3], [3], [3], [], [], [], [9], [9, 10], [9, 10], [3, 9, 10], [3, 9, 10], [], [], [], [], [3, 9, 10]] [[], [], [], [], [], [], [], [], [], [], [(5, _)], [], [], [], [], [], [], [], [], []] tMixn (fun _ => by rfl) (fun _ => by rfl) (by kernel_rfl) (by kernel_rfl) (by rfl) (by rfl)
            (fun β => ⟨.p rfl (by intro X; exact op_move rfl),
            ⟨.p rfl (by intro X; rintro _ _ ⟨rfl, rfl⟩; exact op_fn Try.func29 rfl rfl rfl (chk_any (Sl.lab 5 rfl (by unfold maxLen; omega)) (by assumption) (by omega))),
            ⟨.p rfl (by intro X; exact op_loadA rfl tA34n (Ent.lab (l := 2) rfl (says_cel 0)) (Nat.le_of_ble_eq_true rfl)),
            ⟨.px rfl (by intro X; rintro _ _ ⟨rfl, rfl⟩; refine OpT.mono (op_buildSlice (enc := encC) (l := [(⟨cf, ct, cb⟩ : Con)]) (lab := 43) tL24_1n rfl rfl (fun _ => rfl) rfl) ?_; rintro _ _ ⟨a43, c43, rfl, rfl⟩; obtain ⟨w, rfl, rfl⟩ : ∃ w : Wt, w.a = a43 ∧ w.c = c43 := ⟨{ a := a43, c := c43 }, rfl, rfl⟩; exact ⟨w, rfl, rfl⟩),
            ⟨.p rfl (by intro X; rintro _ _ ⟨rfl, rfl⟩; exact op_fn Try.func30 rfl rfl rfl (rchk_any (Sl.lab 43 rfl (by unfold maxLen; omega)) (by assumption) (by omega))),
            ⟨.p rfl (by intro X; rintro _ _ ⟨rfl, rfl⟩ _ _ ⟨rfl, rfl⟩; exact op_val (v' := .bool true) (by rw [hrep]; simp) (op_eql rfl rfl)),
            ⟨.p rfl (by intro X; rintro _ _ ⟨rfl, rfl⟩; exact op_move rfl),
            ⟨.w rfl rfl rfl (by rintro _ _ ⟨rfl, rfl⟩; rfl) (by intro X; exact op_move rfl),
            ⟨.w rfl rfl rfl (by rintro _ _ ⟨rfl, rfl⟩; rfl) (by intro X; exact op_loadA rfl tA34n (Ent.lab (l := 2) rfl (says_cel 0)) (Nat.le_of_ble_eq_true rfl)),
            ⟨.wx rfl rfl rfl (by rintro _ _ ⟨rfl, rfl⟩; rfl) (by intro X; rintro _ _ ⟨rfl, rfl⟩; refine OpT.mono (op_buildSlice (enc := encC) (l := [(⟨cf, ct, cb⟩ : Con)]) (lab := 49) tL24_1n rfl rfl (fun _ => rfl) rfl) ?_; rintro _ _ ⟨a49, c49, rfl, rfl⟩; obtain ⟨w, rfl, rfl⟩ : ∃ w : Wt, w.a = a49 ∧ w.c = c49 := ⟨{ a := a49, c := c49 }, rfl, rfl⟩; exact ⟨w, rfl, rfl⟩),
            ⟨.wx rfl rfl rfl (by rintro _ _ ⟨rfl, rfl⟩; rfl) (by intro X; rintro _ _ ⟨rfl, rfl⟩ _ _ ⟨rfl, rfl⟩; refine OpT.mono (op_append (lab := 5) (lab' := 50) rfl rfl tP24n enc1C (Sl.lab 49 rfl (by simp [maxLen])) (by first | omega | (simp; done) | (simp; omega) | (simp [*]; omega)) (by first | omega | (simp; done) | (simp; omega) | (simp [*]; omega))) ?_; rintro _ _ ⟨a50, c50, rfl, rfl⟩; obtain ⟨w, rfl, rfl⟩ : ∃ w : Wt, w.a = a50 ∧ w.c = c50 := ⟨{ a := a50, c := c50 }, rfl, rfl⟩; exact ⟨w, rfl, rfl⟩),
            ⟨.w rfl rfl rfl (by rintro _ _ ⟨rfl, rfl⟩; rfl) (by intro X; rintro _ _ ⟨rfl, rfl⟩; exact op_fn Try.func29 rfl rfl rfl (chk_any (Sl.lab 50 rfl (by unfold maxLen; omega)) (by assumption) (by omega))),
            ⟨.w rfl rfl rfl (by rintro _ _ ⟨rfl, rfl⟩; rfl) (by intro X; rintro _ _ ⟨rfl, rfl⟩; exact op_val (v' := .bool true) (by rw [hmore]; simp) (op_eql rfl rfl)),
            ⟨.p rfl (by intro X; rintro _ _ ⟨rfl, rfl⟩ _ _ ⟨rfl, rfl⟩; exact op_pick_t rfl rfl),
            ⟨.p rfl (by intro X; rintro _ _ ⟨rfl, rfl⟩; exact op_move rfl),
            ⟨.w rfl rfl rfl (by rintro _ _ ⟨rfl, rfl⟩; rfl) (by intro X; exact op_move rfl),
            ⟨.w rfl rfl rfl (by rintro _ _ ⟨rfl, rfl⟩; rfl) (by intro X; rintro _ _ ⟨rfl, rfl⟩; exact op_fn Try.func29 rfl rfl rfl (chk_any (Sl.lab 6 rfl (by unfold maxLen; omega)) (by assumption) (by omega))),
            ⟨.w rfl rfl rfl (by rintro _ _ ⟨rfl, rfl⟩; rfl) (by intro X; exact op_move rfl),
            ⟨.w rfl rfl rfl (by rintro _ _ ⟨rfl, rfl⟩; rfl) (by intro X; rintro _ _ ⟨rfl, rfl⟩ _ _ ⟨rfl, rfl⟩; exact op_val (v' := .bool true) (by rw [hcc, if_pos (by omega)]; simp) (op_eql rfl rfl)),
            ⟨.p rfl (by intro X; rintro _ _ ⟨rfl, rfl⟩ _ _ ⟨rfl, rfl⟩; exact op_pick_t rfl rfl),
            trivial⟩⟩⟩⟩⟩⟩⟩⟩⟩⟩⟩⟩⟩⟩⟩⟩⟩⟩⟩⟩)
            (fun β β' => ⟨fun _ => by rfl, ⟨fun _ => by rfl, ⟨fun _ => by rfl, ⟨fun _ => by rfl, ⟨fun h => by first | rfl | (simp only [h 3 (by decide)]), ⟨fun h => by first | rfl | (simp only [h 3 (by decide)]), ⟨fun h => by first | rfl | (simp only [h 3 (by decide)]), ⟨fun _ => by rfl, ⟨fun _ => by rfl, ⟨fun _ => by rfl, ⟨fun h => by first | rfl | (simp only [h 9 (by decide)]), ⟨fun h => by first | rfl | (simp only [h 9 (by decide), h 10 (by decide)]), ⟨fun h => by first | rfl | (simp only [h 9 (by decide), h 10 (by decide)]), ⟨fun h => by first | rfl | (simp only [h 3 (by decide), h 9 (by decide), h 10 (by decide)]), ⟨fun h => by first | rfl | (simp only [h 3 (by decide), h 9 (by decide), h 10 (by decide)]), ⟨fun _ => by rfl, ⟨fun _ => by rfl, ⟨fun _ => by rfl, ⟨fun _ => by rfl, ⟨fun h => by first | rfl | (simp only [h 3 (by decide), h 9 (by decide), h 10 (by decide)]), trivial⟩⟩⟩⟩⟩⟩⟩⟩⟩⟩⟩⟩⟩⟩⟩⟩⟩⟩⟩⟩) ?_
        intro β
        rintro _ _ ⟨rfl, rfl⟩ _ _ ⟨rfl, rfl⟩ _ _ ⟨rfl, rfl⟩ _ _ ⟨rfl, rfl⟩ _ _ ⟨rfl, rfl⟩ _ _ ⟨rfl, rfl⟩ _ _ ⟨rfl, rfl⟩ _ _ ⟨rfl, rfl⟩ _ _ ⟨rfl, rfl⟩ _ _ ⟨rfl, rfl⟩ _ _ ⟨rfl, rfl⟩ _ _ ⟨rfl, rfl⟩ _ _ ⟨rfl, rfl⟩ _ _ ⟨rfl, rfl⟩ _ _ ⟨rfl, rfl⟩ _ _ ⟨rfl, rfl⟩ _ _ ⟨rfl, rfl⟩ _ _ ⟨rfl, rfl⟩ _ _ ⟨rfl, rfl⟩ _ _ ⟨rfl, rfl⟩
        generalize (β 3).a = a43
        generalize (β 3).c = c43
        generalize (β 9).a = a49
        generalize (β 9).c = c49
        generalize (β 10).a = a50
        generalize (β 10).c = c50
        refine wl_norm (e' := [(59, _)]) (.cons rfl (.nil _)) (by dsimp only [cond_false, cond_true, List.nil_append, List.cons_append]) ?_
        refine wl_det rfl rfl rfl (op_assign rfl) ?_
        refine wl_nil ?_
        refine st_tn ?_
        refine w_ret ?_
        refine st_ret (vs := [_]) [] Try.results9 ⟨rfl, trivial⟩ rfl ?_
        refine ⟨_, rfl, ?_⟩
        exact ⟨rfl, rfl⟩
      · -- c39.f
        refine w_skip ?_
        refine st_tn ?_
        refine w_seq ?_
        refine w_drawW (fun β => [⟨40, [], [], [], noW (_), false, [], []⟩, ⟨41, [0], [], [], noW (_), false, [10], []⟩, ⟨42, [], [], [], noW (_), false, [], []⟩, ⟨43, [2], [], [], fun w => DetW _ _, false, [], []⟩, ⟨44, [3], [], [], noW (_), false, [], []⟩, ⟨45, [1, 4], [], [], noW (_), false, [], []⟩, ⟨46, [5], [], [], noW (_), false, [], []⟩, ⟨47, [], [], [], noW (_), false, [], []⟩, ⟨48, [], [], [], noW (_), false, [], []⟩, ⟨49, [8], [], [], fun w => DetW _ _, false, [], []⟩, ⟨50, [7, 9], [], [(5, _)], fun w => DetW _ _, false, [], []⟩, ⟨51, [10], [], [], noW (_), false, [], []⟩, ⟨52, [11], [], [], noW (_), false, [], []⟩, ⟨53, [6, 12], [], [], noW (_), false, [], []⟩, ⟨54, [13], [], [], noW (_), false, [], []⟩, ⟨55, [], [], [], noW (_), false, [], []⟩, ⟨56, [15], [], [], noW (_), false, [], []⟩, ⟨57, [], [], [], noW (_), false, [], []⟩, ⟨58, [16, 17], [], [], noW (_), false, [], []⟩, ⟨59, [14, 18], [], [], noW (_), false, [], []⟩]) [5] [5, 2, 6, 10] [⟨40, [], [], false, [], []⟩, ⟨41, [0], [], false, [10], []⟩, ⟨42, [], [], false, [], []⟩, ⟨43, [2], [], false, [], []⟩, ⟨44, [3], [], false, [], []⟩, ⟨45, [1, 4], [], false, [], []⟩, ⟨46, [5], [], false, [], []⟩, ⟨47, [], [], false, [], []⟩, ⟨48, [], [], false, [], []⟩, ⟨49, [8], [], false, [], []⟩, ⟨50, [7, 9], [], false, [], []⟩, ⟨51, [10], [], false, [], []⟩, ⟨52, [11], [], false, [], []⟩, ⟨53, [6, 12], [], false, [], []⟩, ⟨54, [13], [], false, [], []⟩, ⟨55, [], [], false, [], []⟩, ⟨56, [15], [], false, [], []⟩, ⟨57, [], [], false, [], []⟩, ⟨58, [16, 17], [], false, [], []⟩, ⟨59, [14, 18], [], false, [], []⟩] [[], [], [], [], [3], [3], [3], [], [], [], [9], [9, 10], [9, 10], [3, 9, 10], [3, 9, 10], [], [], [], [], [3, 9, 10]] [[], [], [], [], [], [], [], [], [], [], [(5, _)], [], [], [], [], [], [], [], [], []] tMixn (fun _ => by rfl) (fun _ => by rfl) (by kernel_rfl) (by kernel_rfl) (by rfl) (by rfl)
            (fun β => ⟨.p rfl (by intro X; exact op_move rfl),
            ⟨.p rfl (by intro X; rintro _ _ ⟨rfl, rfl⟩; exact op_fn Try.func29 rfl rfl rfl (chk_any (Sl.lab 5 rfl (by unfold maxLen; omega)) (by assumption) (by omega))),
            ⟨.p rfl (by intro X; exact op_loadA rfl tA34n (Ent.lab (l := 2) rfl (says_cel 0)) (Nat.le_of_ble_eq_true rfl)),
            ⟨.px rfl (by intro X; rintro _ _ ⟨rfl, rfl⟩; refine OpT.mono (op_buildSlice (enc := encC) (l := [(⟨cf, ct, cb⟩ : Con)]) (lab := 43) tL24_1n rfl rfl (fun _ => rfl) rfl) ?_; rintro _ _ ⟨a43, c43, rfl, rfl⟩; obtain ⟨w, rfl, rfl⟩ : ∃ w : Wt, w.a = a43 ∧ w.c = c43 := ⟨{ a := a43, c := c43 }, rfl, rfl⟩; exact ⟨w, rfl, rfl⟩),
            ⟨.p rfl (by intro X; rintro _ _ ⟨rfl, rfl⟩; exact op_fn Try.func30 rfl rfl rfl (rchk_any (Sl.lab 43 rfl (by unfold maxLen; omega)) (by assumption) (by omega))),
            ⟨.p rfl (by intro X; rintro _ _ ⟨rfl, rfl⟩ _ _ ⟨rfl, rfl⟩; exact op_val (v' := .bool true) (by rw [hrep]; simp) (op_eql rfl rfl)),
            ⟨.p rfl (by intro X; rintro _ _ ⟨rfl, rfl⟩; exact op_move rfl),
            ⟨.w rfl rfl rfl (by rintro _ _ ⟨rfl, rfl⟩; rfl) (by intro X; exact op_move rfl),
            ⟨.w rfl rfl rfl (by rintro _ _ ⟨rfl, rfl⟩; rfl) (by intro X; exact op_loadA rfl tA34n (Ent.lab (l := 2) rfl (says_cel 0)) (Nat.le_of_ble_eq_true rfl)),
            ⟨.wx rfl rfl rfl (by rintro _ _ ⟨rfl, rfl⟩; rfl) (by intro X; rintro _ _ ⟨rfl, rfl⟩; refine OpT.mono (op_buildSlice (enc := encC) (l := [(⟨cf, ct, cb⟩ : Con)]) (lab := 49) tL24_1n rfl rfl (fun _ => rfl) rfl) ?_; rintro _ _ ⟨a49, c49, rfl, rfl⟩; obtain ⟨w, rfl, rfl⟩ : ∃ w : Wt, w.a = a49 ∧ w.c = c49 := ⟨{ a := a49, c := c49 }, rfl, rfl⟩; exact ⟨w, rfl, rfl⟩),
            ⟨.wx rfl rfl rfl (by rintro _ _ ⟨rfl, rfl⟩; rfl) (by intro X; rintro _ _ ⟨rfl, rfl⟩ _ _ ⟨rfl, rfl⟩; refine OpT.mono (op_append (lab := 5) (lab' := 50) rfl rfl tP24n enc1C (Sl.lab 49 rfl (by simp [maxLen])) (by first | omega | (simp; done) | (simp; omega) | (simp [*]; omega)) (by first | omega | (simp; done) | (simp; omega) | (simp [*]; omega))) ?_; rintro _ _ ⟨a50, c50, rfl, rfl⟩; obtain ⟨w, rfl, rfl⟩ : ∃ w : Wt, w.a = a50 ∧ w.c = c50 := ⟨{ a := a50, c := c50 }, rfl, rfl⟩; exact ⟨w, rfl, rfl⟩),
            ⟨.w rfl rfl rfl (by rintro _ _ ⟨rfl, rfl⟩; rfl) (by intro X; rintro _ _ ⟨rfl, rfl⟩; exact op_fn Try.func29 rfl rfl rfl (chk_any (Sl.lab 50 rfl (by unfold maxLen; omega)) (by assumption) (by omega))),
            ⟨.w rfl rfl rfl (by rintro _ _ ⟨rfl, rfl⟩; rfl) (by intro X; rintro _ _ ⟨rfl, rfl⟩; exact op_val (v' := .bool true) (by rw [hmore]; simp) (op_eql rfl rfl)),
            ⟨.p rfl (by intro X; rintro _ _ ⟨rfl, rfl⟩ _ _ ⟨rfl, rfl⟩; exact op_pick_t rfl rfl),
            ⟨.p rfl (by intro X; rintro _ _ ⟨rfl, rfl⟩; exact op_move rfl),
            ⟨.w rfl rfl rfl (by rintro _ _ ⟨rfl, rfl⟩; rfl) (by intro X; exact op_move rfl),
            ⟨.w rfl rfl rfl (by rintro _ _ ⟨rfl, rfl⟩; rfl) (by intro X; rintro _ _ ⟨rfl, rfl⟩; exact op_fn Try.func29 rfl rfl rfl (chk_any (Sl.lab 6 rfl (by unfold maxLen; omega)) (by assumption) (by omega))),
            ⟨.w rfl rfl rfl (by rintro _ _ ⟨rfl, rfl⟩; rfl) (by intro X; exact op_move rfl),
            ⟨.w rfl rfl rfl (by rintro _ _ ⟨rfl, rfl⟩; rfl) (by intro X; rintro _ _ ⟨rfl, rfl⟩ _ _ ⟨rfl, rfl⟩; exact op_val (v' := .bool true) (by rw [hcc, if_neg (by omega)]; simp) (op_eql rfl rfl)),
            ⟨.p rfl (by intro X; rintro _ _ ⟨rfl, rfl⟩ _ _ ⟨rfl, rfl⟩; exact op_pick_t rfl rfl),
            trivial⟩⟩⟩⟩⟩⟩⟩⟩⟩⟩⟩⟩⟩⟩⟩⟩⟩⟩⟩⟩)
            (fun β β' => ⟨fun _ => by rfl, ⟨fun _ => by rfl, ⟨fun _ => by rfl, ⟨fun _ => by rfl, ⟨fun h => by first | rfl | (simp only [h 3 (by decide)]), ⟨fun h => by first | rfl | (simp only [h 3 (by decide)]), ⟨fun h => by first | rfl | (simp only [h 3 (by decide)]), ⟨fun _ => by rfl, ⟨fun _ => by rfl, ⟨fun _ => by rfl, ⟨fun h => by first | rfl | (simp only [h 9 (by decide)]), ⟨fun h => by first | rfl | (simp only [h 9 (by decide), h 10 (by decide)]), ⟨fun h => by first | rfl | (simp only [h 9 (by decide), h 10 (by decide)]), ⟨fun h => by first | rfl | (simp only [h 3 (by decide), h 9 (by decide), h 10 (by decide)]), ⟨fun h => by first | rfl | (simp only [h 3 (by decide), h 9 (by decide), h 10 (by decide)]), ⟨fun _ => by rfl, ⟨fun _ => by rfl, ⟨fun _ => by rfl, ⟨fun _ => by rfl, ⟨fun h => by first | rfl | (simp only [h 3 (by decide), h 9 (by decide), h 10 (by decide)]), trivial⟩⟩⟩⟩⟩⟩⟩⟩⟩⟩⟩⟩⟩⟩⟩⟩⟩⟩⟩⟩) ?_
        intro β
        rintro _ _ ⟨rfl, rfl⟩ _ _ ⟨rfl, rfl⟩ _ _ ⟨rfl, rfl⟩ _ _ ⟨rfl, rfl⟩ _ _ ⟨rfl, rfl⟩ _ _ ⟨rfl, rfl⟩ _ _ ⟨rfl, rfl⟩ _ _ ⟨rfl, rfl⟩ _ _ ⟨rfl, rfl⟩ _ _ ⟨rfl, rfl⟩ _ _ ⟨rfl, rfl⟩ _ _ ⟨rfl, rfl⟩ _ _ ⟨rfl, rfl⟩ _ _ ⟨rfl, rfl⟩ _ _ ⟨rfl, rfl⟩ _ _ ⟨rfl, rfl⟩ _ _ ⟨rfl, rfl⟩ _ _ ⟨rfl, rfl⟩ _ _ ⟨rfl, rfl⟩ _ _ ⟨rfl, rfl⟩
        generalize (β 3).a = a43
        generalize (β 3).c = c43
        generalize (β 9).a = a49
        generalize (β 9).c = c49
        generalize (β 10).a = a50
        generalize (β 10).c = c50
        refine wl_norm (e' := [(59, _)]) (.cons rfl (.nil _)) (by dsimp only [cond_false, cond_true, List.nil_append, List.cons_append]) ?_
        refine wl_det rfl rfl rfl (op_assign rfl) ?_
        refine wl_nil ?_
        refine st_tn ?_
        refine w_ret ?_
        refine st_ret (vs := [_]) [] Try.results9 ⟨rfl, trivial⟩ rfl ?_
        refine ⟨_, rfl, ?_⟩
        exact ⟨rfl, rfl⟩

end Go.Proofs.Ytgdjnjbipemdcaa
