/- Contracts of the package bitmap: membership, equality, ranges, runs. Conditions: none. -/
import Derived.Test.YtkknlfhncheflaaB5
namespace Go.Proofs.Ytkknlfhncheflaa
open Go Go.SL Go.RowKit Go.BitM
set_option linter.unusedVariables false
set_option linter.unusedSimpArgs false
theorem tA26f : aggB Try.prog 26 1 = true := by kernel_rfl
theorem tA58f : aggB Try.prog 58 2 = true := by kernel_rfl
theorem tB26f : placesB Try.prog 26 = some ([(0, 1)], [Value.slice none 0 0]) := by kernel_rfl
theorem tB58f : placesB Try.prog 58 = some ([(0, 1), (1, 1)], [Value.int .i64 0, Value.int .i64 0]) := by kernel_rfl
theorem tF26_0f : fieldB Try.prog 26 0 0 = true := by kernel_rfl
theorem tG58f : Try.prog.eqGuardType Try.prog.depth 58 = false := by kernel_rfl
theorem tL24_1f : zerosB Try.prog 24 58 2 1 = some [Value.int .i64 0, Value.int .i64 0] := by kernel_rfl
theorem tMixf : Try.prog.follows .mixedOrders = true := by kernel_rfl
theorem tN26f : (Try.prog.info? 26).bind (·.zero) = some (Value.agg #[Value.slice none 0 0]) := by kernel_rfl
theorem tO24f : oneB Try.prog 24 = true := by kernel_rfl
theorem tS24f : sliceB Try.prog 24 58 2 = true := by kernel_rfl
theorem tZ26f : (Try.prog.info? 26).map (·.size) = some 1 := by kernel_rfl

-- CALL slices.Clone[[]sleuth/bitmap.Run,sleuth/bitmap.Run] pat=⟨a{d}, c{d}, rfl, rfl⟩ lab={d} cloneR {d} {s0} (by assumption)
set_option maxHeartbeats 400000 in
set_option maxRecDepth 100000 in
theorem contains_any {σ : World} {F : List Res} {a : Option Addr} {c : Nat} {rl : List Run} (row : Int) (h : Sl σ F encRun 2 (.slice a rl.length c) rl) :
    FnT Try.prog σ F 25 [bm a rl.length c, .int .i64 row] [] (fun u ρ => u = .bool (rl.any fun r => decide (r.1 ≤ row ∧ row ≤ r.2)) ∧ ρ = []) := by
  refine fn_of 9 Try.func25 rfl Try.ntmps25 rfl ?_
  refine w_seq ?_
  refine w_region ?_
  refine wl_op [] rfl rfl rfl rfl (op_box (T := 26) (l := 2) rfl) ?_
  rintro _ _ ⟨b2, rfl, rfl⟩
  refine wl_op [] rfl rfl rfl rfl (op_box (T := 3) (l := 3) rfl) ?_
  rintro _ _ ⟨b3, rfl, rfl⟩
  refine wl_det rfl rfl rfl (op_assign rfl) ?_
  refine wl_nil ?_
  refine st_tn ?_
  refine w_seq ?_
  refine w_region ?_
  refine wl_det rfl rfl rfl (op_fieldAddr (off := 0) rfl tF26_0f) ?_
  refine wl_det rfl rfl rfl (op_load1 rfl tO24f (Ent.lab (l := 2) rfl (says_cel 0))) ?_
  refine wl_det rfl rfl rfl (op_makeFunc rfl rfl) ?_
  refine wl_det rfl rfl rfl (op_fn Try.func54 rfl rfl rfl (containsFuncR (fs := []) (cs := [.pointer (some ⟨b3, 0, none⟩)]) (Sl.app h _) Try.func55 rfl rfl (fun X r => contains1 (Ent.app (Ent.lab (l := 3) rfl (says_cel 0)) X) r))) ?_
  refine wl_det rfl rfl rfl (op_assign rfl) ?_
  refine wl_nil ?_
  refine st_tn ?_
  refine w_ret ?_
  refine st_ret (vs := [_]) [] Try.results25 ⟨rfl, trivial⟩ rfl ?_
  refine ⟨_, rfl, ?_⟩
  exact ⟨rfl, rfl⟩

set_option maxHeartbeats 400000 in
set_option maxRecDepth 100000 in
theorem equalR {σ : World} {F : List Res} {a b : Option Addr} {c d : Nat} {l m : List Run} (h : Sl σ F encRun 2 (.slice a l.length c) l) (g : Sl σ F encRun 2 (.slice b m.length d) m) :
    FnT Try.prog σ F 56 [.slice a l.length c, .slice b m.length d] [] (fun u ρ => u = .bool (decide (l = m)) ∧ ρ = []) := by
  refine fn_of 26 Try.func56 rfl Try.ntmps56 rfl ?_
  have hle := h.i64
  have gle := g.i64
  refine w_seq ?_
  refine w_region ?_
  refine wl_det rfl rfl rfl (op_assign rfl) ?_
  refine wl_nil ?_
  refine st_tn ?_
  refine w_seq ?_
  refine w_seq ?_
  refine w_region ?_
  refine wl_det rfl rfl rfl (op_move rfl) ?_
  refine wl_det rfl rfl rfl (op_lenT rfl tS24f (Sl.ent (Sl.app h _))) ?_
  refine wl_det rfl rfl rfl (op_move rfl) ?_
  refine wl_det rfl rfl rfl (op_lenT rfl tS24f (Sl.ent (Sl.app g _))) ?_
  refine wl_det rfl rfl rfl (op_neq rfl rfl) ?_
  refine wl_nil ?_
  refine st_tn ?_
  refine w_cond_d rfl (fun hc10 => ?_) (fun hc10 => ?_)
  · -- c10.t
    refine w_seq ?_
    refine w_region ?_
    refine wl_det rfl rfl rfl (op_assign rfl) ?_
    refine wl_nil ?_
    refine st_tn ?_
    refine w_ret ?_
    refine st_tr ?_
    refine st_ret (vs := [_]) [] Try.results56 ⟨rfl, trivial⟩ rfl ?_
    refine ⟨_, rfl, ?_⟩
    refine ⟨?_, rfl⟩; have : l ≠ m := fun e => by subst e; exact hc10 rfl
    simp [retv, this]
  · -- c10.f
    refine w_skip ?_
    refine st_tn ?_
    refine w_seq ?_
    refine w_seq ?_
    refine w_region ?_
    refine wl_det rfl rfl rfl (op_move rfl) ?_
    refine wl_det rfl rfl rfl (op_lenT rfl tS24f (Sl.ent (Sl.app h _))) ?_
    refine wl_det rfl rfl rfl (op_move rfl) ?_
    refine wl_nil ?_
    refine st_tn ?_
    refine w_block ?_
    refine w_loop (X := Nat) (fun i => i ≤ l.length ∧ l.take i = m.take i) (fun i => [(0, .slice a l.length c), (1, .slice b m.length d), (12, .int .i64 l.length), (13, .int .i64 i)]) (fun _ => []) (fun i => l.length - i) (0) (⟨Nat.zero_le _, by simp⟩) (.cons rfl (.cons rfl (.cons rfl (.cons rfl (.nil _))))) ⟨[], _, _, rfl, rfl⟩ ?_
    rintro i ⟨hi, hn⟩
    refine w_seq ?_
    refine w_region ?_
    refine wl_det rfl rfl rfl (op_lss rfl rfl) ?_
    refine wl_nil ?_
    refine st_tn ?_
    refine w_seq ?_
    refine w_cond_d rfl (fun hc14 => ?_) (fun hc14 => ?_)
    · -- c14.t
      obtain ⟨y, hy⟩ := getE (l := l) (i := i) (by omega)
      obtain ⟨z, hz⟩ := getE (l := m) (i := i) (by omega)
      have hlt := ltE hy
      refine w_skip ?_
      refine st_tn ?_
      refine w_seq ?_
      refine w_block ?_
      refine w_seq ?_
      refine w_region ?_
      refine wl_det rfl rfl rfl (op_move rfl) ?_
      refine wl_det rfl rfl rfl (op_assign rfl) ?_
      refine wl_nil ?_
      refine st_tn ?_
      refine w_seq ?_
      refine w_draw (D := [⟨16, [], [], [], _, false, [], []⟩, ⟨17, [], [], [], _, false, [], []⟩, ⟨18, [0, 1], [], [], _, false, [], []⟩, ⟨19, [2], [], [], _, false, [], []⟩, ⟨20, [], [], [], _, false, [], []⟩, ⟨21, [], [], [], _, false, [], []⟩, ⟨22, [4, 5], [], [], _, false, [], []⟩, ⟨23, [6], [], [], _, false, [], []⟩]) [] [0, 5, 1] [⟨16, [], [], false, [], []⟩, ⟨17, [], [], false, [], []⟩, ⟨18, [0, 1], [], false, [], []⟩, ⟨19, [2], [], false, [], []⟩, ⟨20, [], [], false, [], []⟩, ⟨21, [], [], false, [], []⟩, ⟨22, [4, 5], [], false, [], []⟩, ⟨23, [6], [], false, [], []⟩] tMixf (by rfl) (by kernel_rfl) (by rfl) (by rfl)
          ⟨.plain rfl (by intro X; exact op_move rfl),
          ⟨.plain rfl (by intro X; exact op_move rfl),
          ⟨.plain rfl (by intro X; rintro _ _ ⟨rfl, rfl⟩ _ _ ⟨rfl, rfl⟩; exact op_idx rfl rfl tS24f (Sl.ent (by first | exact h | exact Sl.app h _ | exact Sl.app (Sl.app h _) _)) (by omega)),
          ⟨.plain rfl (by intro X; rintro _ _ ⟨rfl, rfl⟩; exact op_ldxA rfl tA58f (by first | exact h | exact Sl.app h _ | exact Sl.app (Sl.app h _) _) (by assumption) (by rfl) (by rfl)),
          ⟨.plain rfl (by intro X; exact op_move rfl),
          ⟨.plain rfl (by intro X; exact op_move rfl),
          ⟨.plain rfl (by intro X; rintro _ _ ⟨rfl, rfl⟩ _ _ ⟨rfl, rfl⟩; exact op_idx rfl rfl tS24f (Sl.ent (by first | exact g | exact Sl.app g _ | exact Sl.app (Sl.app g _) _)) (by omega)),
          ⟨.plain rfl (by intro X; rintro _ _ ⟨rfl, rfl⟩; exact op_ldxA rfl tA58f (by first | exact g | exact Sl.app g _ | exact Sl.app (Sl.app g _) _) (by assumption) (by rfl) (by rfl)),
          trivial⟩⟩⟩⟩⟩⟩⟩⟩ ?_
      rintro _ _ ⟨rfl, rfl⟩ _ _ ⟨rfl, rfl⟩ _ _ ⟨rfl, rfl⟩ _ _ ⟨rfl, rfl⟩ _ _ ⟨rfl, rfl⟩ _ _ ⟨rfl, rfl⟩ _ _ ⟨rfl, rfl⟩ _ _ ⟨rfl, rfl⟩
      refine wl_norm (e' := [(0, _), (1, _), (12, _), (13, _), (19, _), (23, _)]) (.cons rfl (.cons rfl (.cons rfl (.cons rfl (.cons rfl (.cons rfl (.nil _))))))) (by dsimp only [cond_false, cond_true, List.nil_append, List.cons_append]) ?_
      refine wl_det rfl rfl rfl (op_neA rfl rfl tG58f (eq58 _ _ _ _)) ?_
      refine wl_nil ?_
      refine st_tn ?_
      refine w_cond rfl (fun hc24 => ?_) (fun hc24 => ?_)
      · -- c24.t
        replace hc24 : y ≠ z := fun e => by subst e; simp at hc24
        refine w_seq ?_
        refine w_region ?_
        refine wl_det rfl rfl rfl (op_assign rfl) ?_
        refine wl_nil ?_
        refine st_tn ?_
        refine w_ret ?_
        refine st_br ?_
        refine st_tr ?_
        refine st_tr ?_
        refine st_br ?_
        refine st_tr ?_
        refine st_ret (vs := [_]) [] Try.results56 ⟨rfl, trivial⟩ rfl ?_
        refine ⟨_, rfl, ?_⟩
        refine ⟨?_, rfl⟩; have : l ≠ m := fun e => by subst e; rw [hy] at hz; simp at hz; exact hc24 hz
        simp [retv, this]
      · -- c24.f
        replace hc24 : y = z := Prod.ext_iff.2 (by simpa using hc24)
        refine w_skip ?_
        refine st_bn ?_
        refine st_tn ?_
        refine w_region ?_
        refine wl_det rfl rfl rfl (op_add' rfl rfl (by omega)) ?_
        refine wl_det rfl rfl rfl (op_move rfl) ?_
        refine wl_nil ?_
        refine st_round (x := i) (i + 1) [] (⟨by omega, by rw [take_snoc hy, take_snoc hz, hn, show y = z from hc24]⟩) (by omega) (.cons rfl (.cons rfl (.cons rfl (.cons rfl (.nil _))))) rfl (rfl) 
    · -- c14.f
      refine w_exit ?_
      refine st_te ?_
      refine st_te ?_
      refine st_be ?_
      refine st_tn ?_
      refine w_seq ?_
      refine w_region ?_
      refine wl_det rfl rfl rfl (op_assign rfl) ?_
      refine wl_nil ?_
      refine st_tn ?_
      refine w_ret ?_
      refine st_ret (vs := [_]) [] Try.results56 ⟨rfl, trivial⟩ rfl ?_
      refine ⟨_, rfl, ?_⟩
      refine ⟨?_, rfl⟩; rw [take_all (by omega), take_all (by omega)] at hn; simp [retv, hn]

set_option maxHeartbeats 400000 in
set_option maxRecDepth 100000 in
theorem bequal_any {σ : World} {F : List Res} {a b : Option Addr} {c d : Nat} {l m : List Run} (h : Sl σ F encRun 2 (.slice a l.length c) l) (g : Sl σ F encRun 2 (.slice b m.length d) m) :
    FnT Try.prog σ F 30 [bm a l.length c, bm b m.length d] [] (fun u ρ => u = .bool (decide (l = m)) ∧ ρ = []) := by
  refine fn_of 10 Try.func30 rfl Try.ntmps30 rfl ?_
  refine w_seq ?_
  refine w_region ?_
  refine wl_op [] rfl rfl rfl rfl (op_box (T := 26) (l := 2) rfl) ?_
  rintro _ _ ⟨b2, rfl, rfl⟩
  refine wl_op [] rfl rfl rfl rfl (op_box (T := 26) (l := 3) rfl) ?_
  rintro _ _ ⟨b3, rfl, rfl⟩
  refine wl_det rfl rfl rfl (op_assign rfl) ?_
  refine wl_nil ?_
  refine st_tn ?_
  refine w_seq ?_
  refine w_region ?_
  refine wl_det rfl rfl rfl (op_fieldAddr (off := 0) rfl tF26_0f) ?_
  refine wl_det rfl rfl rfl (op_load1 rfl tO24f (Ent.lab (l := 2) rfl (says_cel 0))) ?_
  refine wl_det rfl rfl rfl (op_fieldAddr (off := 0) rfl tF26_0f) ?_
  refine wl_det rfl rfl rfl (op_load1 rfl tO24f (Ent.lab (l := 3) rfl (says_cel 0))) ?_
  refine wl_det rfl rfl rfl (op_fn Try.func56 rfl rfl rfl (equalR (Sl.app h _) (Sl.app g _))) ?_
  refine wl_det rfl rfl rfl (op_assign rfl) ?_
  refine wl_nil ?_
  refine st_tn ?_
  refine w_ret ?_
  refine st_ret (vs := [_]) [] Try.results30 ⟨rfl, trivial⟩ rfl ?_
  refine ⟨_, rfl, ?_⟩
  exact ⟨rfl, rfl⟩

/-- What a function that makes a set or fails returns. -/
def BE (lab : Nat) (r : Except Int (List Run)) (u : Value) (ρ : RL) : Prop := match r with
  | .ok rl => ∃ a c, u = .tuple #[bm a rl.length c, .int .i64 0] ∧ ρ = [(lab, slW 58 encRun 2 (.slice a rl.length c) rl)]
  | .error e => u = .tuple #[bm none 0 0, .int .i64 e] ∧ ρ = []
set_option maxHeartbeats 400000 in
set_option maxRecDepth 100000 in
theorem range_any {σ : World} {F : List Res} (lab : Nat) (x y : Int) :
    FnT Try.prog σ F 18 [.int .i64 x, .int .i64 y] [] (BE lab (if x < 0 ∨ x > 1048576 ∨ y < 0 ∨ y > 1048576 then .error 2 else if x ≥ y then .ok [] else .ok [(x, y - 1)])) := by
  refine fn_of 31 Try.func18 rfl Try.ntmps18 rfl ?_
  refine w_seq ?_
  refine w_region ?_
  refine wl_op [] rfl rfl rfl rfl (op_alloc (l := 4) tN26f) ?_
  rintro _ _ ⟨b4, rfl, rfl⟩
  refine wl_det rfl rfl rfl (op_assign rfl) ?_
  refine wl_nil ?_
  refine st_tn ?_
  refine w_seq ?_
  refine w_seq ?_
  refine w_cutL [(19, .bool (decide (x < 0 ∨ x > 1048576 ∨ y < 0 ∨ y > 1048576)))] [0, 1, 4] [4] rfl (fun K' hK => ?_) ?_
  · -- cut r1
    refine w_region ?_
    refine wl_det rfl rfl rfl (op_move rfl) ?_
    refine wl_det rfl rfl rfl (op_lss rfl rfl) ?_
    refine wl_det rfl rfl rfl (op_move rfl) ?_
    refine wl_gsplit (t := 8) rfl (fun hg8 => ?_) (fun hg8 => ?_)
    · -- 8 is True
      refine wl_unwanted rfl rfl rfl rfl rfl rfl rfl rfl ?_
      refine wl_unwanted rfl rfl rfl rfl rfl rfl rfl rfl ?_
      refine wl_det rfl rfl rfl (op_pick_t rfl rfl) ?_
      refine wl_det rfl rfl rfl (op_move rfl) ?_
      refine wl_unwanted rfl rfl rfl rfl rfl rfl rfl rfl ?_
      refine wl_unwanted rfl rfl rfl rfl rfl rfl rfl rfl ?_
      refine wl_det rfl rfl rfl (op_pick_t rfl rfl) ?_
      refine wl_det rfl rfl rfl (op_move rfl) ?_
      refine wl_unwanted rfl rfl rfl rfl rfl rfl rfl rfl ?_
      refine wl_unwanted rfl rfl rfl rfl rfl rfl rfl rfl ?_
      refine wl_det rfl rfl rfl (op_pick_t rfl rfl) ?_
      refine wl_nil ?_
      refine st_tn ?_
      exact cut_done1 [4] hK rfl (by first | (rw [decide_eq_decide]; omega) | (symm; rw [decide_eq_false_iff_not]; omega) | (symm; rw [decide_eq_true_iff]; omega) | (simp; done) | (simp; omega) | (simp [*]; done) | (simp [*]; omega)) (by rfl) rfl rfl
    · -- 8 is False
      refine wl_wanted_det rfl rfl rfl rfl rfl rfl rfl (op_move rfl) ?_
      refine wl_wanted_det rfl rfl rfl rfl rfl rfl rfl (op_gtr rfl rfl) ?_
      refine wl_det rfl rfl rfl (op_pick_f rfl rfl) ?_
      refine wl_det rfl rfl rfl (op_move rfl) ?_
      refine wl_gsplit (t := 12) rfl (fun hg12 => ?_) (fun hg12 => ?_)
      · -- 12 is True
        refine wl_unwanted rfl rfl rfl rfl rfl rfl rfl rfl ?_
        refine wl_unwanted rfl rfl rfl rfl rfl rfl rfl rfl ?_
        refine wl_det rfl rfl rfl (op_pick_t rfl rfl) ?_
        refine wl_det rfl rfl rfl (op_move rfl) ?_
        refine wl_unwanted rfl rfl rfl rfl rfl rfl rfl rfl ?_
        refine wl_unwanted rfl rfl rfl rfl rfl rfl rfl rfl ?_
        refine wl_det rfl rfl rfl (op_pick_t rfl rfl) ?_
        refine wl_nil ?_
        refine st_tn ?_
        exact cut_done1 [4] hK rfl (by first | (rw [decide_eq_decide]; omega) | (symm; rw [decide_eq_false_iff_not]; omega) | (symm; rw [decide_eq_true_iff]; omega) | (simp; done) | (simp; omega) | (simp [*]; done) | (simp [*]; omega)) (by rfl) rfl rfl
      · -- 12 is False
        refine wl_wanted_det rfl rfl rfl rfl rfl rfl rfl (op_move rfl) ?_
        refine wl_wanted_det rfl rfl rfl rfl rfl rfl rfl (op_lss rfl rfl) ?_
        refine wl_det rfl rfl rfl (op_pick_f rfl rfl) ?_
        refine wl_det rfl rfl rfl (op_move rfl) ?_
        refine wl_gsplit (t := 16) rfl (fun hg16 => ?_) (fun hg16 => ?_)
        · -- 16 is True
          refine wl_unwanted rfl rfl rfl rfl rfl rfl rfl rfl ?_
          refine wl_unwanted rfl rfl rfl rfl rfl rfl rfl rfl ?_
          refine wl_det rfl rfl rfl (op_pick_t rfl rfl) ?_
          refine wl_nil ?_
          refine st_tn ?_
          exact cut_done1 [4] hK rfl (by first | (rw [decide_eq_decide]; omega) | (symm; rw [decide_eq_false_iff_not]; omega) | (symm; rw [decide_eq_true_iff]; omega) | (simp; done) | (simp; omega) | (simp [*]; done) | (simp [*]; omega)) (by rfl) rfl rfl
        · -- 16 is False
          refine wl_wanted_det rfl rfl rfl rfl rfl rfl rfl (op_move rfl) ?_
          refine wl_wanted_det rfl rfl rfl rfl rfl rfl rfl (op_gtr rfl rfl) ?_
          refine wl_det rfl rfl rfl (op_pick_f rfl rfl) ?_
          refine wl_nil ?_
          refine st_tn ?_
          exact cut_done1 [4] hK rfl (by first | (rw [decide_eq_decide]; omega) | (symm; rw [decide_eq_false_iff_not]; omega) | (symm; rw [decide_eq_true_iff]; omega) | (simp; done) | (simp; omega) | (simp [*]; done) | (simp [*]; omega)) (by rfl) rfl rfl
  · -- behind r1
    show W _ _ _ _ _ [(19, _), (0, _), (1, _), (4, _)] [(4, _)] _
    refine w_cond_d rfl (fun hc19 => ?_) (fun hc19 => ?_)
    · -- c19.t
      refine w_seq ?_
      refine w_region ?_
      refine wl_det rfl rfl rfl (op_build tB26f rfl rfl) ?_
      refine wl_op0 [4] rfl rfl rfl (op_store rfl rfl tZ26f (by rfl) (by rfl) (by exact Nat.le_of_ble_eq_true rfl)) ?_
      rintro _ _ ⟨rfl, rfl⟩
      refine wl_det rfl rfl rfl (op_assign rfl) ?_
      refine wl_nil ?_
      refine st_tn ?_
      refine w_ret ?_
      refine st_tr ?_
      refine st_ret (vs := [_, _]) [] Try.results18 ⟨⟨_, rfl, Ent.mono (Ent.lab (l := 4) rfl (says_cel 0)) (fun _ h => run_load_agg tA26f h (Nat.le_of_ble_eq_true rfl))⟩, ⟨rfl, trivial⟩⟩ rfl ?_
      refine ⟨_, rfl, ?_⟩
      rw [if_pos hc19]; exact ⟨rfl, rfl⟩
    · -- c19.f
      refine w_skip ?_
      refine st_tn ?_
      refine w_seq ?_
      refine w_seq ?_
      refine w_region ?_
      refine wl_det rfl rfl rfl (op_move rfl) ?_
      refine wl_det rfl rfl rfl (op_move rfl) ?_
      refine wl_det rfl rfl rfl (op_geq rfl rfl) ?_
      refine wl_nil ?_
      refine st_tn ?_
      refine w_cond_d rfl (fun hc23 => ?_) (fun hc23 => ?_)
      · -- c23.t
        refine w_seq ?_
        refine w_emp 99 (slO_nil 58 2) ?_
        refine w_region ?_
        refine wl_det rfl rfl rfl (op_build tB26f rfl rfl) ?_
        refine wl_op0 [4] rfl rfl rfl (op_store rfl rfl tZ26f (by rfl) (by rfl) (by exact Nat.le_of_ble_eq_true rfl)) ?_
        rintro _ _ ⟨rfl, rfl⟩
        refine wl_det rfl rfl rfl (op_assign rfl) ?_
        refine wl_nil ?_
        refine st_tn ?_
        refine w_ret ?_
        refine st_tr ?_
        refine st_ret (vs := [_, _]) [99] Try.results18 ⟨⟨_, rfl, Ent.mono (Ent.lab (l := 4) rfl (says_cel 0)) (fun _ h => run_load_agg tA26f h (Nat.le_of_ble_eq_true rfl))⟩, ⟨rfl, trivial⟩⟩ rfl ?_
        refine ⟨[(lab, _)], rfl, ?_⟩
        rw [if_neg hc19, if_pos hc23]; exact ⟨none, 0, rfl, rfl⟩
      · -- c23.f
        refine w_skip ?_
        refine st_tn ?_
        refine w_seq ?_
        refine w_region ?_
        refine wl_det rfl rfl rfl (op_move rfl) ?_
        refine wl_det rfl rfl rfl (op_move rfl) ?_
        refine wl_det rfl rfl rfl (op_sub' rfl rfl (by omega)) ?_
        refine wl_det rfl rfl rfl (op_build tB58f rfl rfl) ?_
        refine wl_op [] rfl rfl rfl rfl (op_buildSlice (enc := encRun) (l := [(_, _)]) (lab := 29) tL24_1f rfl rfl (fun _ => rfl) rfl) ?_
        rintro _ _ ⟨a29, c29, rfl, rfl⟩
        refine wl_det rfl rfl rfl (op_build tB26f rfl rfl) ?_
        refine wl_op0 [4] rfl rfl rfl (op_store rfl rfl tZ26f (by rfl) (by rfl) (by exact Nat.le_of_ble_eq_true rfl)) ?_
        rintro _ _ ⟨rfl, rfl⟩
        refine wl_det rfl rfl rfl (op_assign rfl) ?_
        refine wl_nil ?_
        refine st_tn ?_
        refine w_ret ?_
        refine st_ret (vs := [_, _]) [29] Try.results18 ⟨⟨_, rfl, Ent.mono (Ent.lab (l := 4) rfl (says_cel 0)) (fun _ h => run_load_agg tA26f h (Nat.le_of_ble_eq_true rfl))⟩, ⟨rfl, trivial⟩⟩ rfl ?_
        refine ⟨[(lab, _)], rfl, ?_⟩
        rw [if_neg hc19, if_neg hc23]; exact ⟨a29, c29, rfl, rfl⟩

/-- The error of a list of runs. -/
def chkR (l : List Run) : Int := (l.zipIdx.findSome? fun p => if ¬ (0 ≤ p.1.1 ∧ p.1.1 < 1048576) ∨ ¬ (0 ≤ p.1.2 ∧ p.1.2 < 1048576) then some (2 : Int) else if p.1.2 < p.1.1 ∨ (0 < p.2 ∧ p.1.1 ≤ (l.getD (p.2 - 1) (0, 0)).2 + 1) then some 8 else none).getD 0
end Go.Proofs.Ytkknlfhncheflaa
