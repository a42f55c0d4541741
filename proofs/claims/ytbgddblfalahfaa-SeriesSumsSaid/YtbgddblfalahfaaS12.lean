/- Contracts: Slots, At, Window, copied, one and the law's at (layer 43). Conditions: none. -/
import Derived.Test.YtbgddblfalahfaaS9
import Derived.Test.YtbgddblfalahfaaSlI
namespace Go.Proofs.Ytbgddblfalahfaa
open Go Go.SL Go.RowKit
set_option linter.unusedVariables false
set_option linter.unusedSimpArgs false
theorem tA37l : aggB Try.prog 37 2 = true := by kernel_rfl
theorem tA48l : aggB Try.prog 48 7 = true := by kernel_rfl
theorem tB37l : placesB Try.prog 37 = some ([(0, 1), (1, 1)], [Value.int .i64 0, Value.int .i64 0]) := by kernel_rfl
theorem tB48l : placesB Try.prog 48 = some ([(0, 1), (1, 1), (2, 1), (3, 2), (5, 1), (6, 1)], [Value.string .empty, Value.string .empty, Value.int .i64 0, Value.int .i64 0, Value.int .i64 0, Value.int .i64 0, Value.slice none 0 0]) := by kernel_rfl
theorem tF37_0l : fieldB Try.prog 37 0 0 = true := by kernel_rfl
theorem tF37_1l : fieldB Try.prog 37 1 1 = true := by kernel_rfl
theorem tF48_4l : fieldB Try.prog 48 4 5 = true := by kernel_rfl
theorem tF48_5l : fieldB Try.prog 48 5 6 = true := by kernel_rfl
theorem tMixl : Try.prog.follows .mixedOrders = true := by kernel_rfl
theorem tN37l : (Try.prog.info? 37).bind (·.zero) = some (Value.agg #[Value.int .i64 0, Value.int .i64 0]) := by kernel_rfl
theorem tN48l : (Try.prog.info? 48).bind (·.zero) = some (Value.agg #[Value.string .empty, Value.string .empty, Value.int .i64 0, Value.int .i64 0, Value.int .i64 0, Value.int .i64 0, Value.slice none 0 0]) := by kernel_rfl
theorem tO25l : oneB Try.prog 25 = true := by kernel_rfl
theorem tO3l : oneB Try.prog 3 = true := by kernel_rfl
theorem tS25l : sliceB Try.prog 25 3 1 = true := by kernel_rfl
theorem tZ37l : (Try.prog.info? 37).map (·.size) = some 2 := by kernel_rfl
theorem tZ48l : (Try.prog.info? 48).map (·.size) = some 7 := by kernel_rfl

-- CALL sleuth/sleuthlaw43.total total_any _ _ {s0} (by omega) (by assumption)
set_option maxHeartbeats 400000 in
set_option maxRecDepth 100000 in
theorem slots_any {σ : World} {F : List Res} {a : Option Addr} {c : Nat} {l : List Int} (k : SK) (fr : Int) (h : Sl σ F encZ 1 (.slice a l.length c) l) (hl : l.length ≤ 1048576) (hf : -1099511627776 ≤ fr ∧ fr ≤ 1099511627776) :
    FnT Try.prog σ F 45 [sr k fr (.slice a l.length c)] [] (fun u ρ => u = .agg #[.int .i64 fr, .int .i64 (fr + l.length)] ∧ ρ = []) := by
  refine fn_of 12 Try.func45 rfl Try.ntmps45 rfl ?_
  refine w_seq ?_
  refine w_region ?_
  refine wl_op [] rfl rfl rfl rfl (op_box (T := 48) (l := 1) rfl) ?_
  rintro _ _ ⟨b1, rfl, rfl⟩
  refine wl_op [] rfl rfl rfl rfl (op_alloc (l := 2) tN37l) ?_
  rintro _ _ ⟨b2, rfl, rfl⟩
  refine wl_nil ?_
  refine st_tn ?_
  refine w_seq ?_
  refine w_region ?_
  refine wl_det rfl rfl rfl (op_fieldAddr (off := 5) rfl tF48_4l) ?_
  refine wl_det rfl rfl rfl (op_load1 rfl tO3l (Ent.lab (l := 1) rfl (says_cel 5))) ?_
  refine wl_det rfl rfl rfl (op_fieldAddr (off := 5) rfl tF48_4l) ?_
  refine wl_det rfl rfl rfl (op_load1 rfl tO3l (Ent.lab (l := 1) rfl (says_cel 5))) ?_
  refine wl_det rfl rfl rfl (op_fieldAddr (off := 6) rfl tF48_5l) ?_
  refine wl_det rfl rfl rfl (op_load1 rfl tO25l (Ent.lab (l := 1) rfl (says_cel 6))) ?_
  refine wl_det rfl rfl rfl (op_lenT rfl tS25l (Sl.ent (by first | exact Sl.app (by assumption) _ | exact Sl.app (Sl.app (by assumption) _) _))) ?_
  refine wl_det rfl rfl rfl (op_add' rfl rfl (by omega)) ?_
  refine wl_det rfl rfl rfl (op_build tB37l rfl rfl) ?_
  refine wl_op0 [2] rfl rfl rfl (op_store rfl rfl tZ37l (by rfl) (by rfl) (by exact Nat.le_of_ble_eq_true rfl)) ?_
  rintro _ _ ⟨rfl, rfl⟩
  refine wl_nil ?_
  refine st_tn ?_
  refine w_ret ?_
  refine st_ret (vs := [_]) [] Try.results45 ⟨⟨_, rfl, Ent.mono (Ent.lab (l := 2) rfl (says_cel 0)) (fun _ h => run_load_agg tA37l h (Nat.le_of_ble_eq_true rfl))⟩, trivial⟩ rfl ?_
  refine ⟨_, rfl, ?_⟩
  exact ⟨rfl, rfl⟩

/-- The value in a slot. -/
def atV (l : List Int) (fr x : Int) : Int := if fr ≤ x ∧ x < fr + l.length then l.getD (x - fr).toNat 0 else 0
set_option maxHeartbeats 400000 in
set_option maxRecDepth 100000 in
theorem at_any {σ : World} {F : List Res} {a : Option Addr} {c : Nat} {l : List Int} (k : SK) (fr x : Int) (h : Sl σ F encZ 1 (.slice a l.length c) l) (hl : l.length ≤ 1048576) (hf : -1099511627776 ≤ fr ∧ fr ≤ 1099511627776) (hx : -9223372036854775808 ≤ x ∧ x ≤ 9223372036854775807) :
    FnT Try.prog σ F 43 [sr k fr (.slice a l.length c), .int .i64 x] [] (fun u ρ => u = .tuple #[.int .i64 (atV l fr x), .bool (decide (fr ≤ x ∧ x < fr + l.length))] ∧ ρ = []) := by
  refine fn_of 28 Try.func43 rfl Try.ntmps43 rfl ?_
  have hle := h.i64
  refine w_seq ?_
  refine w_region ?_
  refine wl_op [] rfl rfl rfl rfl (op_box (T := 48) (l := 2) rfl) ?_
  rintro _ _ ⟨b2, rfl, rfl⟩
  refine wl_det rfl rfl rfl (op_assign rfl) ?_
  refine wl_det rfl rfl rfl (op_assign rfl) ?_
  refine wl_nil ?_
  refine st_tn ?_
  refine w_seq ?_
  refine w_seq ?_
  refine w_cutL [(19, .bool (decide (¬ (fr ≤ x ∧ x < fr + l.length))))] [1, 2] [2] rfl (fun K' hK => ?_) ?_
  · -- cut r1
    refine w_region ?_
    refine wl_det rfl rfl rfl (op_move rfl) ?_
    refine wl_det rfl rfl rfl (op_fieldAddr (off := 5) rfl tF48_4l) ?_
    refine wl_det rfl rfl rfl (op_load1 rfl tO3l (Ent.lab (l := 2) rfl (says_cel 5))) ?_
    refine wl_det rfl rfl rfl (op_lss rfl rfl) ?_
    refine wl_det rfl rfl rfl (op_move rfl) ?_
    refine wl_gsplit (t := 10) rfl (fun hg10 => ?_) (fun hg10 => ?_)
    · -- 10 is True
      refine wl_unwanted rfl rfl rfl rfl rfl rfl rfl rfl ?_
      refine wl_unwanted rfl rfl rfl rfl rfl rfl rfl rfl ?_
      refine wl_unwanted rfl rfl rfl rfl rfl rfl rfl rfl ?_
      refine wl_unwanted rfl rfl rfl rfl rfl rfl rfl rfl ?_
      refine wl_unwanted rfl rfl rfl rfl rfl rfl rfl rfl ?_
      refine wl_unwanted rfl rfl rfl rfl rfl rfl rfl rfl ?_
      refine wl_unwanted rfl rfl rfl rfl rfl rfl rfl rfl ?_
      refine wl_unwanted rfl rfl rfl rfl rfl rfl rfl rfl ?_
      refine wl_det rfl rfl rfl (op_pick_t rfl rfl) ?_
      refine wl_nil ?_
      refine st_tn ?_
      exact cut_done1 [2] hK rfl (by first | (rw [decide_eq_decide]; omega) | (symm; rw [decide_eq_false_iff_not]; omega) | (symm; rw [decide_eq_true_iff]; omega) | (simp; done) | (simp; omega) | (simp [*]; done) | (simp [*]; omega)) (by rfl) rfl rfl
    · -- 10 is False
      refine wl_wanted_det rfl rfl rfl rfl rfl rfl rfl (op_move rfl) ?_
      refine wl_wanted_det rfl rfl rfl rfl rfl rfl rfl (op_fieldAddr (off := 5) rfl tF48_4l) ?_
      refine wl_wanted_det rfl rfl rfl rfl rfl rfl rfl (op_load1 rfl tO3l (Ent.lab (l := 2) rfl (says_cel 5))) ?_
      refine wl_wanted_det rfl rfl rfl rfl rfl rfl rfl (op_fieldAddr (off := 6) rfl tF48_5l) ?_
      refine wl_wanted_det rfl rfl rfl rfl rfl rfl rfl (op_load1 rfl tO25l (Ent.lab (l := 2) rfl (says_cel 6))) ?_
      refine wl_wanted_det rfl rfl rfl rfl rfl rfl rfl (op_lenT rfl tS25l (Sl.ent (by first | exact Sl.app (by assumption) _ | exact Sl.app (Sl.app (by assumption) _) _))) ?_
      refine wl_wanted_det rfl rfl rfl rfl rfl rfl rfl (op_add' rfl rfl (by omega)) ?_
      refine wl_wanted_det rfl rfl rfl rfl rfl rfl rfl (op_geq rfl rfl) ?_
      refine wl_det rfl rfl rfl (op_pick_f rfl rfl) ?_
      refine wl_nil ?_
      refine st_tn ?_
      exact cut_done1 [2] hK rfl (by first | (rw [decide_eq_decide]; omega) | (symm; rw [decide_eq_false_iff_not]; omega) | (symm; rw [decide_eq_true_iff]; omega) | (simp; done) | (simp; omega) | (simp [*]; done) | (simp [*]; omega)) (by rfl) rfl rfl
  · -- behind r1
    show W _ _ _ _ _ [(19, _), (1, _), (2, _)] [(2, _)] _
    refine w_cond_d rfl (fun hc19 => ?_) (fun hc19 => ?_)
    · -- c19.t
      refine w_seq ?_
      refine w_region ?_
      refine wl_det rfl rfl rfl (op_assign rfl) ?_
      refine wl_det rfl rfl rfl (op_assign rfl) ?_
      refine wl_nil ?_
      refine st_tn ?_
      refine w_ret ?_
      refine st_tr ?_
      refine st_ret (vs := [_, _]) [] Try.results43 ⟨rfl, ⟨rfl, trivial⟩⟩ rfl ?_
      refine ⟨_, rfl, ?_⟩
      unfold atV; rw [if_neg hc19, decide_eq_false hc19]; exact ⟨rfl, rfl⟩
    · -- c19.f
      have hin : fr ≤ x ∧ x < fr + l.length := Classical.byContradiction hc19
      obtain ⟨y, hy⟩ := getE (l := l) (i := (x - fr).toNat) (by omega)
      refine w_skip ?_
      refine st_tn ?_
      refine w_seq ?_
      refine w_region ?_
      refine wl_det rfl rfl rfl (op_fieldAddr (off := 6) rfl tF48_5l) ?_
      refine wl_det rfl rfl rfl (op_load1 rfl tO25l (Ent.lab (l := 2) rfl (says_cel 6))) ?_
      refine wl_det rfl rfl rfl (op_move rfl) ?_
      refine wl_det rfl rfl rfl (op_fieldAddr (off := 5) rfl tF48_4l) ?_
      refine wl_det rfl rfl rfl (op_load1 rfl tO3l (Ent.lab (l := 2) rfl (says_cel 5))) ?_
      refine wl_det rfl rfl rfl (op_sub' rfl rfl (by omega)) ?_
      refine wl_det rfl rfl rfl (op_idxZ rfl rfl tS25l (Sl.ent (by first | exact Sl.app (by assumption) _ | exact Sl.app (Sl.app (by assumption) _) _)) (by omega) (by omega)) ?_
      refine wl_det rfl rfl rfl (op_ldx rfl tO3l (by first | exact Sl.app (by assumption) _ | exact Sl.app (Sl.app (by assumption) _) _) (by assumption) (by rfl)) ?_
      refine wl_det rfl rfl rfl (op_assign rfl) ?_
      refine wl_det rfl rfl rfl (op_assign rfl) ?_
      refine wl_nil ?_
      refine st_tn ?_
      refine w_ret ?_
      refine st_ret (vs := [_, _]) [] Try.results43 ⟨rfl, ⟨rfl, trivial⟩⟩ rfl ?_
      refine ⟨_, rfl, ?_⟩
      unfold atV; rw [if_pos hin, decide_eq_true hin, List.getD_eq_getElem?_getD, hy]; exact ⟨rfl, rfl⟩

theorem wrap_sub {x fr : Int} (hx : -9223372036854775808 ≤ x ∧ x ≤ 9223372036854775807) (hf : 0 ≤ fr ∧ fr ≤ 1099511627776) : (IntKind.i64.wrap (x - fr) = x - fr) ∨ (x < 0 ∧ IntKind.i64.wrap (x - fr) ≥ 9000000000000000000) := by
  by_cases h : -9223372036854775808 ≤ x - fr
  · exact .inl (wrap_i64 ⟨h, by omega⟩)
  · right
    refine ⟨by omega, ?_⟩
    simp [IntKind.wrap, IntKind.bits, IntKind.signed]; omega
set_option maxHeartbeats 400000 in
set_option maxRecDepth 100000 in
theorem lat_any {σ : World} {F : List Res} {a : Option Addr} {c : Nat} {l : List Int} (k : SK) (fr x : Int) (h : Sl σ F encZ 1 (.slice a l.length c) l) (hl : l.length ≤ 1048576) (hf : 0 ≤ fr ∧ fr ≤ 1099511627776) (hx : -9223372036854775808 ≤ x ∧ x ≤ 9223372036854775807) :
    FnT Try.prog σ F 44 [sr k fr (.slice a l.length c), .int .i64 x] [] (fun u ρ => u = .tuple #[.int .i64 (atV l fr x), .bool (decide (fr ≤ x ∧ x < fr + l.length))] ∧ ρ = []) := by
  refine fn_of 25 Try.func44 rfl Try.ntmps44 rfl ?_
  have hle := h.i64
  have hw := wrap_sub hx hf
  refine w_seq ?_
  refine w_region ?_
  refine wl_op [] rfl rfl rfl rfl (op_box (T := 48) (l := 2) rfl) ?_
  rintro _ _ ⟨b2, rfl, rfl⟩
  refine wl_det rfl rfl rfl (op_assign rfl) ?_
  refine wl_det rfl rfl rfl (op_assign rfl) ?_
  refine wl_nil ?_
  refine st_tn ?_
  refine w_seq ?_
  refine w_seq ?_
  refine w_region ?_
  refine wl_det rfl rfl rfl (op_move rfl) ?_
  refine wl_det rfl rfl rfl (op_fieldAddr (off := 5) rfl tF48_4l) ?_
  refine wl_det rfl rfl rfl (op_load1 rfl tO3l (Ent.lab (l := 2) rfl (says_cel 5))) ?_
  refine wl_det rfl rfl rfl (op_sub rfl rfl) ?_
  refine wl_det rfl rfl rfl (op_assign rfl) ?_
  refine wl_nil ?_
  refine st_tn ?_
  refine w_seq ?_
  generalize IntKind.i64.wrap (x - fr) = j at hw
  refine w_cutL [(19, .bool (decide (fr ≤ x ∧ x < fr + l.length)))] [2, 6] [2] rfl (fun K' hK => ?_) ?_
  · -- cut r2
    refine w_region ?_
    refine wl_det rfl rfl rfl (op_move rfl) ?_
    refine wl_det rfl rfl rfl (op_geq rfl rfl) ?_
    refine wl_det rfl rfl rfl (op_move rfl) ?_
    refine wl_gsplit (t := 13) rfl (fun hg13 => ?_) (fun hg13 => ?_)
    · -- 13 is True
      refine wl_wanted_det rfl rfl rfl rfl rfl rfl rfl (op_move rfl) ?_
      refine wl_wanted_det rfl rfl rfl rfl rfl rfl rfl (op_fieldAddr (off := 6) rfl tF48_5l) ?_
      refine wl_wanted_det rfl rfl rfl rfl rfl rfl rfl (op_load1 rfl tO25l (Ent.lab (l := 2) rfl (says_cel 6))) ?_
      refine wl_wanted_det rfl rfl rfl rfl rfl rfl rfl (op_lenT rfl tS25l (Sl.ent (by first | exact Sl.app (by assumption) _ | exact Sl.app (Sl.app (by assumption) _) _))) ?_
      refine wl_wanted_det rfl rfl rfl rfl rfl rfl rfl (op_lss rfl rfl) ?_
      refine wl_det rfl rfl rfl (op_pick_t rfl rfl) ?_
      refine wl_nil ?_
      refine st_tn ?_
      exact cut_done1 [2] hK rfl (by first | (rw [decide_eq_decide]; omega) | (symm; rw [decide_eq_false_iff_not]; omega) | (symm; rw [decide_eq_true_iff]; omega) | (simp; done) | (simp; omega) | (simp [*]; done) | (simp [*]; omega)) (by rfl) rfl rfl
    · -- 13 is False
      refine wl_unwanted rfl rfl rfl rfl rfl rfl rfl rfl ?_
      refine wl_unwanted rfl rfl rfl rfl rfl rfl rfl rfl ?_
      refine wl_unwanted rfl rfl rfl rfl rfl rfl rfl rfl ?_
      refine wl_unwanted rfl rfl rfl rfl rfl rfl rfl rfl ?_
      refine wl_unwanted rfl rfl rfl rfl rfl rfl rfl rfl ?_
      refine wl_det rfl rfl rfl (op_pick_f rfl rfl) ?_
      refine wl_nil ?_
      refine st_tn ?_
      exact cut_done1 [2] hK rfl (by first | (rw [decide_eq_decide]; omega) | (symm; rw [decide_eq_false_iff_not]; omega) | (symm; rw [decide_eq_true_iff]; omega) | (simp; done) | (simp; omega) | (simp [*]; done) | (simp [*]; omega)) (by rfl) rfl rfl
  · -- behind r2
    show W _ _ _ _ _ [(19, _), (2, _), (6, _)] [(2, _)] _
    refine w_cond_d rfl (fun hc19 => ?_) (fun hc19 => ?_)
    · -- c19.t
      obtain rfl : j = x - fr := by omega
      obtain ⟨y, hy⟩ := getE (l := l) (i := (x - fr).toNat) (by omega)
      refine w_seq ?_
      refine w_region ?_
      refine wl_det rfl rfl rfl (op_fieldAddr (off := 6) rfl tF48_5l) ?_
      refine wl_det rfl rfl rfl (op_load1 rfl tO25l (Ent.lab (l := 2) rfl (says_cel 6))) ?_
      refine wl_det rfl rfl rfl (op_move rfl) ?_
      refine wl_det rfl rfl rfl (op_idxZ rfl rfl tS25l (Sl.ent (by first | exact Sl.app (by assumption) _ | exact Sl.app (Sl.app (by assumption) _) _)) (by omega) (by omega)) ?_
      refine wl_det rfl rfl rfl (op_ldx rfl tO3l (by first | exact Sl.app (by assumption) _ | exact Sl.app (Sl.app (by assumption) _) _) (by assumption) (by rfl)) ?_
      refine wl_det rfl rfl rfl (op_assign rfl) ?_
      refine wl_det rfl rfl rfl (op_assign rfl) ?_
      refine wl_nil ?_
      refine st_tn ?_
      refine w_ret ?_
      refine st_tr ?_
      refine st_ret (vs := [_, _]) [] Try.results44 ⟨rfl, ⟨rfl, trivial⟩⟩ rfl ?_
      refine ⟨_, rfl, ?_⟩
      unfold atV; rw [if_pos hc19, decide_eq_true hc19, List.getD_eq_getElem?_getD, hy]; exact ⟨rfl, rfl⟩
    · -- c19.f
      refine w_skip ?_
      refine st_tn ?_
      refine w_seq ?_
      refine w_region ?_
      refine wl_det rfl rfl rfl (op_assign rfl) ?_
      refine wl_det rfl rfl rfl (op_assign rfl) ?_
      refine wl_nil ?_
      refine st_tn ?_
      refine w_ret ?_
      refine st_ret (vs := [_, _]) [] Try.results44 ⟨rfl, ⟨rfl, trivial⟩⟩ rfl ?_
      refine ⟨_, rfl, ?_⟩
      unfold atV; rw [if_neg hc19, decide_eq_false hc19]; exact ⟨rfl, rfl⟩

theorem Sl.sub2 {σ : World} {F : List Res} {α : Type} {enc : α → List Value} {k : Nat} {a : Option Addr} {m c : Nat} {l : List α} (h : Sl σ F enc k (.slice a m c) l) {lo hi : Nat} (h1 : lo ≤ hi) (h2 : hi ≤ l.length) :
    Sl σ F enc k (.slice (SL.sub a c lo k) ((l.take hi).drop lo).length (c - lo)) ((l.take hi).drop lo) := by
  have := Sl.sub h h1 h2
  rwa [show ((l.take hi).drop lo).length = hi - lo by rw [List.length_drop, List.length_take]; omega]
/-- The part of a series in an interval. -/
def winF (fr : Int) (l : List Int) (p q : Int) : Int := if max fr p ≥ min (fr + l.length) q then fr else max fr p
def winL (fr : Int) (l : List Int) (p q : Int) : List Int := if max fr p ≥ min (fr + l.length) q then [] else (l.take (min (fr + l.length) q - fr).toNat).drop (max fr p - fr).toNat
set_option maxHeartbeats 1000000 in
set_option maxRecDepth 100000 in
theorem window_any {σ : World} {F : List Res} {a : Option Addr} {c : Nat} {l : List Int} (lab : Nat) (k : SK) (fr p q : Int) (h : Sl σ F encZ 1 (.slice a l.length c) l) (hl : l.length ≤ 1048576) (hf : -1099511627776 ≤ fr ∧ fr ≤ 1099511627776) (hp : -9223372036854775808 ≤ p ∧ p ≤ 9223372036854775807) (hq : -9223372036854775808 ≤ q ∧ q ≤ 9223372036854775807) :
    FnT Try.prog σ F 42 [sr k fr (.slice a l.length c), .agg #[.int .i64 p, .int .i64 q]] [] (fun u ρ => ∃ m a c, m = winL fr l p q ∧ u = sr k (winF fr l p q) (.slice a m.length c) ∧ ρ = [(lab, slW 3 encZ 1 (.slice a m.length c) m)]) := by
  refine fn_of 43 Try.func42 rfl Try.ntmps42 rfl ?_
  have hle := h.i64
  refine w_seq ?_
  refine w_region ?_
  refine wl_op [] rfl rfl rfl rfl (op_box (T := 48) (l := 2) rfl) ?_
  rintro _ _ ⟨b2, rfl, rfl⟩
  refine wl_op [] rfl rfl rfl rfl (op_box (T := 37) (l := 3) rfl) ?_
  rintro _ _ ⟨b3, rfl, rfl⟩
  refine wl_op [] rfl rfl rfl rfl (op_alloc (l := 4) tN48l) ?_
  rintro _ _ ⟨b4, rfl, rfl⟩
  refine wl_nil ?_
  refine st_tn ?_
  refine w_seq ?_
  refine w_drawW (fun β => [⟨7, [], [], [], noW (_), false, [], []⟩, ⟨8, [0], [], [], noW (_), false, [], []⟩, ⟨9, [], [], [], noW (_), false, [], []⟩, ⟨10, [2], [], [], noW (_), false, [], []⟩, ⟨11, [1, 3], [], [], noW (_), false, [], []⟩, ⟨12, [], [], [], noW (_), false, [], []⟩, ⟨13, [5], [], [], noW (_), false, [], []⟩, ⟨14, [], [], [], noW (_), false, [], []⟩, ⟨15, [7], [], [], noW (_), false, [], []⟩, ⟨16, [8], [], [], noW (_), false, [], []⟩, ⟨17, [6, 9], [], [], noW (_), false, [], []⟩, ⟨18, [], [], [], noW (_), false, [], []⟩, ⟨19, [11], [], [], noW (_), false, [], []⟩, ⟨20, [10, 12], [], [], noW (_), false, [], []⟩, ⟨5, [4], [], [], noW (_), false, [], []⟩]) [] [2, 3] [⟨7, [], [], false, [], []⟩, ⟨8, [0], [], false, [], []⟩, ⟨9, [], [], false, [], []⟩, ⟨10, [2], [], false, [], []⟩, ⟨11, [1, 3], [], false, [], []⟩, ⟨12, [], [], false, [], []⟩, ⟨13, [5], [], false, [], []⟩, ⟨14, [], [], false, [], []⟩, ⟨15, [7], [], false, [], []⟩, ⟨16, [8], [], false, [], []⟩, ⟨17, [6, 9], [], false, [], []⟩, ⟨18, [], [], false, [], []⟩, ⟨19, [11], [], false, [], []⟩, ⟨20, [10, 12], [], false, [], []⟩, ⟨5, [4], [], false, [], []⟩] [[], [], [], [], [], [], [], [], [], [], [], [], [], [], []] [[], [], [], [], [], [], [], [], [], [], [], [], [], [], []] tMixl (fun _ => by rfl) (fun _ => by rfl) (by kernel_rfl) (by kernel_rfl) (by rfl) (by rfl)
      (fun β => ⟨.p rfl (by intro X; exact op_fieldAddr (off := 5) rfl tF48_4l),
      ⟨.p rfl (by intro X; rintro _ _ ⟨rfl, rfl⟩; exact op_load1 rfl tO3l (Ent.lab (l := 2) rfl (says_cel 5))),
      ⟨.p rfl (by intro X; exact op_fieldAddr (off := 0) rfl tF37_0l),
      ⟨.p rfl (by intro X; rintro _ _ ⟨rfl, rfl⟩; exact op_load1 rfl tO3l (Ent.lab (l := 3) rfl (says_cel 0))),
      ⟨.p rfl (by intro X; rintro _ _ ⟨rfl, rfl⟩ _ _ ⟨rfl, rfl⟩; exact op_max rfl rfl),
      ⟨.p rfl (by intro X; exact op_fieldAddr (off := 5) rfl tF48_4l),
      ⟨.p rfl (by intro X; rintro _ _ ⟨rfl, rfl⟩; exact op_load1 rfl tO3l (Ent.lab (l := 2) rfl (says_cel 5))),
      ⟨.p rfl (by intro X; exact op_fieldAddr (off := 6) rfl tF48_5l),
      ⟨.p rfl (by intro X; rintro _ _ ⟨rfl, rfl⟩; exact op_load1 rfl tO25l (Ent.lab (l := 2) rfl (says_cel 6))),
      ⟨.p rfl (by intro X; rintro _ _ ⟨rfl, rfl⟩; exact op_lenT rfl tS25l (Sl.ent (by first | exact Sl.app (by assumption) _ | exact Sl.app (Sl.app (by assumption) _) _))),
      ⟨.p rfl (by intro X; rintro _ _ ⟨rfl, rfl⟩ _ _ ⟨rfl, rfl⟩; exact op_add' rfl rfl (by omega)),
      ⟨.p rfl (by intro X; exact op_fieldAddr (off := 1) rfl tF37_1l),
      ⟨.p rfl (by intro X; rintro _ _ ⟨rfl, rfl⟩; exact op_load1 rfl tO3l (Ent.lab (l := 3) rfl (says_cel 1))),
      ⟨.p rfl (by intro X; rintro _ _ ⟨rfl, rfl⟩ _ _ ⟨rfl, rfl⟩; exact op_min rfl rfl),
      ⟨.p rfl (by intro X; rintro _ _ ⟨rfl, rfl⟩; exact op_assign rfl),
      trivial⟩⟩⟩⟩⟩⟩⟩⟩⟩⟩⟩⟩⟩⟩⟩)
      (fun β β' => ⟨fun _ => by rfl, ⟨fun _ => by rfl, ⟨fun _ => by rfl, ⟨fun _ => by rfl, ⟨fun _ => by rfl, ⟨fun _ => by rfl, ⟨fun _ => by rfl, ⟨fun _ => by rfl, ⟨fun _ => by rfl, ⟨fun _ => by rfl, ⟨fun _ => by rfl, ⟨fun _ => by rfl, ⟨fun _ => by rfl, ⟨fun _ => by rfl, ⟨fun _ => by rfl, trivial⟩⟩⟩⟩⟩⟩⟩⟩⟩⟩⟩⟩⟩⟩⟩) ?_
  intro β
  rintro _ _ ⟨rfl, rfl⟩ _ _ ⟨rfl, rfl⟩ _ _ ⟨rfl, rfl⟩ _ _ ⟨rfl, rfl⟩ _ _ ⟨rfl, rfl⟩ _ _ ⟨rfl, rfl⟩ _ _ ⟨rfl, rfl⟩ _ _ ⟨rfl, rfl⟩ _ _ ⟨rfl, rfl⟩ _ _ ⟨rfl, rfl⟩ _ _ ⟨rfl, rfl⟩ _ _ ⟨rfl, rfl⟩ _ _ ⟨rfl, rfl⟩ _ _ ⟨rfl, rfl⟩ _ _ ⟨rfl, rfl⟩
  refine wl_norm (e' := [(2, _), (4, _), (5, _), (20, _)]) (.cons rfl (.cons rfl (.cons rfl (.cons rfl (.nil _))))) (by dsimp only [cond_false, cond_true, List.nil_append, List.cons_append]) ?_
  refine wl_det rfl rfl rfl (op_assign rfl) ?_
  refine wl_nil ?_
  refine st_tn ?_
  refine w_seq ?_
  refine w_seq ?_
  refine w_region ?_
  refine wl_det rfl rfl rfl (op_move rfl) ?_
  refine wl_det rfl rfl rfl (op_move rfl) ?_
  refine wl_det rfl rfl rfl (op_geq rfl rfl) ?_
  refine wl_nil ?_
  refine st_tn ?_
  refine w_cond_d rfl (fun hc23 => ?_) (fun hc23 => ?_)
  · -- c23.t
    refine w_seq ?_
    refine w_emp 77 (slO_nil 3 1) ?_
    refine w_region ?_
    refine wl_det rfl rfl rfl (op_loadA rfl tA48l (Ent.lab (l := 2) rfl (says_cel 0)) (Nat.le_of_ble_eq_true rfl)) ?_
    refine wl_det rfl rfl rfl (op_fieldAddr (off := 5) rfl tF48_4l) ?_
    refine wl_det rfl rfl rfl (op_load1 rfl tO3l (Ent.lab (l := 2) rfl (says_cel 5))) ?_
    refine wl_det rfl rfl rfl (op_fn Try.func55 rfl rfl rfl (like_any k fr fr a none l.length c 0 0)) ?_
    refine wl_op0 [4] rfl rfl rfl (op_store rfl rfl tZ48l (by rfl) (by rfl) (by exact Nat.le_of_ble_eq_true rfl)) ?_
    rintro _ _ ⟨rfl, rfl⟩
    refine wl_nil ?_
    refine st_tn ?_
    refine w_ret ?_
    refine st_tr ?_
    refine st_ret (vs := [_]) [77] Try.results42 ⟨⟨_, rfl, Ent.mono (Ent.lab (l := 4) rfl (says_cel 0)) (fun _ h => run_load_agg tA48l h (Nat.le_of_ble_eq_true rfl))⟩, trivial⟩ rfl ?_
    refine ⟨[(lab, _)], rfl, ?_⟩
    exact ⟨[], none, 0, by unfold winL; rw [if_pos hc23], by unfold winF; rw [if_pos hc23]; rfl, rfl⟩
  · -- c23.f
    have hlo : (max fr p - fr).toNat ≤ (min (fr + l.length) q - fr).toNat := by omega
    have hhi : (min (fr + l.length) q - fr).toNat ≤ l.length := by omega
    refine w_skip ?_
    refine st_tn ?_
    refine w_seq ?_
    refine w_drawW (fun β => [⟨28, [], [], [], noW (_), false, [], []⟩, ⟨29, [], [], [], noW (_), false, [], []⟩, ⟨30, [], [], [], noW (_), false, [], []⟩, ⟨31, [2], [], [], noW (_), false, [], []⟩, ⟨32, [], [], [], noW (_), false, [], []⟩, ⟨33, [], [], [], noW (_), false, [], []⟩, ⟨34, [5], [], [], noW (_), false, [], []⟩, ⟨35, [4, 6], [], [], noW (_), false, [], []⟩, ⟨36, [], [], [], noW (_), false, [], []⟩, ⟨37, [], [], [], noW (_), false, [], []⟩, ⟨38, [9], [], [], noW (_), false, [], []⟩, ⟨39, [8, 10], [], [], noW (_), false, [], []⟩, ⟨40, [3, 7, 11], [], [], noW (_), false, [], []⟩, ⟨41, [12], [], [], fun w => DetW _ _, false, [], []⟩]) [] [2, 5, 6] [⟨28, [], [], false, [], []⟩, ⟨29, [], [], false, [], []⟩, ⟨30, [], [], false, [], []⟩, ⟨31, [2], [], false, [], []⟩, ⟨32, [], [], false, [], []⟩, ⟨33, [], [], false, [], []⟩, ⟨34, [5], [], false, [], []⟩, ⟨35, [4, 6], [], false, [], []⟩, ⟨36, [], [], false, [], []⟩, ⟨37, [], [], false, [], []⟩, ⟨38, [9], [], false, [], []⟩, ⟨39, [8, 10], [], false, [], []⟩, ⟨40, [3, 7, 11], [], false, [], []⟩, ⟨41, [12], [], false, [], []⟩] [[], [], [], [], [], [], [], [], [], [], [], [], [], []] [[], [], [], [], [], [], [], [], [], [], [], [], [], []] tMixl (fun _ => by rfl) (fun _ => by rfl) (by kernel_rfl) (by kernel_rfl) (by rfl) (by rfl)
        (fun β => ⟨.p rfl (by intro X; exact op_loadA rfl tA48l (Ent.lab (l := 2) rfl (says_cel 0)) (Nat.le_of_ble_eq_true rfl)),
        ⟨.p rfl (by intro X; exact op_move rfl),
        ⟨.p rfl (by intro X; exact op_fieldAddr (off := 6) rfl tF48_5l),
        ⟨.p rfl (by intro X; rintro _ _ ⟨rfl, rfl⟩; exact op_load1 rfl tO25l (Ent.lab (l := 2) rfl (says_cel 6))),
        ⟨.p rfl (by intro X; exact op_move rfl),
        ⟨.p rfl (by intro X; exact op_fieldAddr (off := 5) rfl tF48_4l),
        ⟨.p rfl (by intro X; rintro _ _ ⟨rfl, rfl⟩; exact op_load1 rfl tO3l (Ent.lab (l := 2) rfl (says_cel 5))),
        ⟨.p rfl (by intro X; rintro _ _ ⟨rfl, rfl⟩ _ _ ⟨rfl, rfl⟩; exact op_val (v' := .int .i64 ((max fr p - fr).toNat : Int)) (by congr 1; omega) (op_sub' rfl rfl (by omega))),
        ⟨.p rfl (by intro X; exact op_move rfl),
        ⟨.p rfl (by intro X; exact op_fieldAddr (off := 5) rfl tF48_4l),
        ⟨.p rfl (by intro X; rintro _ _ ⟨rfl, rfl⟩; exact op_load1 rfl tO3l (Ent.lab (l := 2) rfl (says_cel 5))),
        ⟨.p rfl (by intro X; rintro _ _ ⟨rfl, rfl⟩ _ _ ⟨rfl, rfl⟩; exact op_val (v' := .int .i64 ((min (fr + l.length) q - fr).toNat : Int)) (by congr 1; omega) (op_sub' rfl rfl (by omega))),
        ⟨.p rfl (by intro X; rintro _ _ ⟨rfl, rfl⟩ _ _ ⟨rfl, rfl⟩ _ _ ⟨rfl, rfl⟩; exact op_val (v' := .slice (SL.sub a c (max fr p - fr).toNat 1) ((l.take (min (fr + l.length) q - fr).toNat).drop (max fr p - fr).toNat).length (c - (max fr p - fr).toNat)) (by congr 1; rw [List.length_drop, List.length_take]; omega) (op_slice rfl rfl rfl tS25l (by first | exact Sl.app (by assumption) _ | exact Sl.app (Sl.app (by assumption) _) _) (by omega) (by omega))),
        ⟨.px rfl (by intro X; rintro _ _ ⟨rfl, rfl⟩; refine OpT.mono (op_fn Try.func56 rfl rfl rfl (cloneI 41 (Sl.sub2 (Sl.app (Sl.app h X) _) hlo hhi) (by rw [List.length_drop, List.length_take]; omega))) ?_; rintro _ _ ⟨a41, c41, rfl, rfl⟩; obtain ⟨w, rfl, rfl⟩ : ∃ w : Wt, w.a = a41 ∧ w.c = c41 := ⟨{ a := a41, c := c41 }, rfl, rfl⟩; exact ⟨w, rfl, rfl⟩),
        trivial⟩⟩⟩⟩⟩⟩⟩⟩⟩⟩⟩⟩⟩⟩)
        (fun β β' => ⟨fun _ => by rfl, ⟨fun _ => by rfl, ⟨fun _ => by rfl, ⟨fun _ => by rfl, ⟨fun _ => by rfl, ⟨fun _ => by rfl, ⟨fun _ => by rfl, ⟨fun _ => by rfl, ⟨fun _ => by rfl, ⟨fun _ => by rfl, ⟨fun _ => by rfl, ⟨fun _ => by rfl, ⟨fun _ => by rfl, ⟨fun _ => by rfl, trivial⟩⟩⟩⟩⟩⟩⟩⟩⟩⟩⟩⟩⟩⟩) ?_
    intro β
    rintro _ _ ⟨rfl, rfl⟩ _ _ ⟨rfl, rfl⟩ _ _ ⟨rfl, rfl⟩ _ _ ⟨rfl, rfl⟩ _ _ ⟨rfl, rfl⟩ _ _ ⟨rfl, rfl⟩ _ _ ⟨rfl, rfl⟩ _ _ ⟨rfl, rfl⟩ _ _ ⟨rfl, rfl⟩ _ _ ⟨rfl, rfl⟩ _ _ ⟨rfl, rfl⟩ _ _ ⟨rfl, rfl⟩ _ _ ⟨rfl, rfl⟩ _ _ ⟨rfl, rfl⟩
    generalize (β 13).a = a41
    generalize (β 13).c = c41
    refine wl_norm (e' := [(4, _), (28, _), (29, _), (41, _)]) (.cons rfl (.cons rfl (.cons rfl (.cons rfl (.nil _))))) (by dsimp only [cond_false, cond_true, List.nil_append, List.cons_append]) ?_
    refine wl_det rfl rfl rfl (op_fn Try.func55 rfl rfl rfl (like_any _ _ _ _ _ _ _ _ _)) ?_
    refine wl_op0 [4] rfl rfl rfl (op_store rfl rfl tZ48l (by rfl) (by rfl) (by exact Nat.le_of_ble_eq_true rfl)) ?_
    rintro _ _ ⟨rfl, rfl⟩
    refine wl_nil ?_
    refine st_tn ?_
    refine w_ret ?_
    refine st_ret (vs := [_]) [41] Try.results42 ⟨⟨_, rfl, Ent.mono (Ent.lab (l := 4) rfl (says_cel 0)) (fun _ h => run_load_agg tA48l h (Nat.le_of_ble_eq_true rfl))⟩, trivial⟩ rfl ?_
    refine ⟨[(lab, _)], rfl, ?_⟩
    exact ⟨_, _, _, by unfold winL; rw [if_neg hc23], by unfold winF; rw [if_neg hc23]; rfl, rfl⟩

set_option maxHeartbeats 400000 in
set_option maxRecDepth 100000 in
theorem copied_any {σ : World} {F : List Res} {a : Option Addr} {c : Nat} {l : List Int} (lab : Nat) (k : SK) (fr : Int) (h : Sl σ F encZ 1 (.slice a l.length c) l) (hl : l.length ≤ 1048576) :
    FnT Try.prog σ F 85 [sr k fr (.slice a l.length c)] [] (fun u ρ => ∃ a c, u = sr k fr (.slice a l.length c) ∧ ρ = [(lab, slW 3 encZ 1 (.slice a l.length c) l)]) := by
  refine fn_of 10 Try.func85 rfl Try.ntmps85 rfl ?_
  have hle := h.i64
  refine w_seq ?_
  refine w_region ?_
  refine wl_op [] rfl rfl rfl rfl (op_box (T := 48) (l := 1) rfl) ?_
  rintro _ _ ⟨b1, rfl, rfl⟩
  refine wl_op [] rfl rfl rfl rfl (op_alloc (l := 2) tN48l) ?_
  rintro _ _ ⟨b2, rfl, rfl⟩
  refine wl_nil ?_
  refine st_tn ?_
  refine w_seq ?_
  refine w_drawW (fun β => [⟨3, [], [], [], noW (_), false, [], []⟩, ⟨4, [], [], [], noW (_), false, [], []⟩, ⟨5, [1], [], [], noW (_), false, [], []⟩, ⟨6, [], [], [], noW (_), false, [], []⟩, ⟨7, [3], [], [], noW (_), false, [], []⟩, ⟨8, [4], [], [], fun w => DetW _ _, false, [], []⟩]) [] [1] [⟨3, [], [], false, [], []⟩, ⟨4, [], [], false, [], []⟩, ⟨5, [1], [], false, [], []⟩, ⟨6, [], [], false, [], []⟩, ⟨7, [3], [], false, [], []⟩, ⟨8, [4], [], false, [], []⟩] [[], [], [], [], [], []] [[], [], [], [], [], []] tMixl (fun _ => by rfl) (fun _ => by rfl) (by kernel_rfl) (by kernel_rfl) (by rfl) (by rfl)
      (fun β => ⟨.p rfl (by intro X; exact op_loadA rfl tA48l (Ent.lab (l := 1) rfl (says_cel 0)) (Nat.le_of_ble_eq_true rfl)),
      ⟨.p rfl (by intro X; exact op_fieldAddr (off := 5) rfl tF48_4l),
      ⟨.p rfl (by intro X; rintro _ _ ⟨rfl, rfl⟩; exact op_load1 rfl tO3l (Ent.lab (l := 1) rfl (says_cel 5))),
      ⟨.p rfl (by intro X; exact op_fieldAddr (off := 6) rfl tF48_5l),
      ⟨.p rfl (by intro X; rintro _ _ ⟨rfl, rfl⟩; exact op_load1 rfl tO25l (Ent.lab (l := 1) rfl (says_cel 6))),
      ⟨.px rfl (by intro X; rintro _ _ ⟨rfl, rfl⟩; refine OpT.mono (op_fn Try.func56 rfl rfl rfl (cloneI 8 (by first | exact Sl.app (by assumption) _ | exact Sl.app (Sl.app (by assumption) _) _) (by omega))) ?_; rintro _ _ ⟨a8, c8, rfl, rfl⟩; obtain ⟨w, rfl, rfl⟩ : ∃ w : Wt, w.a = a8 ∧ w.c = c8 := ⟨{ a := a8, c := c8 }, rfl, rfl⟩; exact ⟨w, rfl, rfl⟩),
      trivial⟩⟩⟩⟩⟩⟩)
      (fun β β' => ⟨fun _ => by rfl, ⟨fun _ => by rfl, ⟨fun _ => by rfl, ⟨fun _ => by rfl, ⟨fun _ => by rfl, ⟨fun _ => by rfl, trivial⟩⟩⟩⟩⟩⟩) ?_
  intro β
  rintro _ _ ⟨rfl, rfl⟩ _ _ ⟨rfl, rfl⟩ _ _ ⟨rfl, rfl⟩ _ _ ⟨rfl, rfl⟩ _ _ ⟨rfl, rfl⟩ _ _ ⟨rfl, rfl⟩
  generalize (β 5).a = a8
  generalize (β 5).c = c8
  refine wl_norm (e' := [(2, _), (3, _), (5, _), (8, _)]) (.cons rfl (.cons rfl (.cons rfl (.cons rfl (.nil _))))) (by dsimp only [cond_false, cond_true, List.nil_append, List.cons_append]) ?_
  refine wl_det rfl rfl rfl (op_fn Try.func55 rfl rfl rfl (like_any _ _ _ _ _ _ _ _ _)) ?_
  refine wl_op0 [2] rfl rfl rfl (op_store rfl rfl tZ48l (by rfl) (by rfl) (by exact Nat.le_of_ble_eq_true rfl)) ?_
  rintro _ _ ⟨rfl, rfl⟩
  refine wl_nil ?_
  refine st_tn ?_
  refine w_ret ?_
  refine st_ret (vs := [_]) [8] Try.results85 ⟨⟨_, rfl, Ent.mono (Ent.lab (l := 2) rfl (says_cel 0)) (fun _ h => run_load_agg tA48l h (Nat.le_of_ble_eq_true rfl))⟩, trivial⟩ rfl ?_
  refine ⟨[(lab, _)], rfl, ?_⟩
  exact ⟨_, _, rfl, rfl⟩

/-- What one returns: the series, and whether one is empty (as the error 1). -/
def oneR (k : SK) (fr : Int) (l : List Int) (k' : SK) (fr' : Int) (m : List Int) : R × Bool := if m.length = 0 then (⟨k, fr, l, 0⟩, true) else if l.length = 0 then (⟨k', fr', m, 0⟩, true) else (zeroR 0, false)
set_option maxHeartbeats 1000000 in
set_option maxRecDepth 100000 in
theorem one_any {σ : World} {F : List Res} {a b : Option Addr} {c d : Nat} {l m : List Int} (lab : Nat) (k : SK) (fr : Int) (k' : SK) (fr' : Int) (h : Sl σ F encZ 1 (.slice a l.length c) l) (g : Sl σ F encZ 1 (.slice b m.length d) m) (hl : l.length ≤ 1048576) (hm : m.length ≤ 1048576) :
    FnT Try.prog σ F 70 [sr k fr (.slice a l.length c), sr k' fr' (.slice b m.length d)] [] (fun u ρ => ∃ r o a c, (r, o) = oneR k fr l k' fr' m ∧ u = .tuple #[sr r.k r.fr (.slice a r.vals.length c), .bool o] ∧ ρ = [(lab, slW 3 encZ 1 (.slice a r.vals.length c) r.vals)]) := by
  refine fn_of 21 Try.func70 rfl Try.ntmps70 rfl ?_
  have hle := h.i64
  have gle := g.i64
  refine w_seq ?_
  refine w_region ?_
  refine wl_op [] rfl rfl rfl rfl (op_box (T := 48) (l := 2) rfl) ?_
  rintro _ _ ⟨b2, rfl, rfl⟩
  refine wl_op [] rfl rfl rfl rfl (op_box (T := 48) (l := 3) rfl) ?_
  rintro _ _ ⟨b3, rfl, rfl⟩
  refine wl_op [] rfl rfl rfl rfl (op_alloc (l := 4) tN48l) ?_
  rintro _ _ ⟨b4, rfl, rfl⟩
  refine wl_det rfl rfl rfl (op_assign rfl) ?_
  refine wl_nil ?_
  refine st_tn ?_
  refine w_seq ?_
  refine w_block ?_
  refine w_seq ?_
  refine w_region ?_
  refine wl_det rfl rfl rfl (op_fieldAddr (off := 6) rfl tF48_5l) ?_
  refine wl_det rfl rfl rfl (op_load1 rfl tO25l (Ent.lab (l := 3) rfl (says_cel 6))) ?_
  refine wl_det rfl rfl rfl (op_lenT rfl tS25l (Sl.ent (by first | exact Sl.app (by assumption) _ | exact Sl.app (Sl.app (by assumption) _) _))) ?_
  refine wl_det rfl rfl rfl (op_eql rfl rfl) ?_
  refine wl_det rfl rfl rfl (op_assign rfl) ?_
  refine wl_nil ?_
  refine st_tn ?_
  refine w_cond_d rfl (fun hc6 => ?_) (fun hc6 => ?_)
  · -- c6.t
    refine w_seq ?_
    refine w_region ?_
    refine wl_det rfl rfl rfl (op_loadA rfl tA48l (Ent.lab (l := 2) rfl (says_cel 0)) (Nat.le_of_ble_eq_true rfl)) ?_
    refine wl_op [] rfl rfl rfl rfl (op_fn Try.func85 rfl rfl rfl (copied_any 12 _ _ (Sl.app h _) (by omega))) ?_
    rintro _ _ ⟨a12, c12, rfl, rfl⟩
    refine wl_op0 [4] rfl rfl rfl (op_store rfl rfl tZ48l (by rfl) (by rfl) (by exact Nat.le_of_ble_eq_true rfl)) ?_
    rintro _ _ ⟨rfl, rfl⟩
    refine wl_det rfl rfl rfl (op_assign rfl) ?_
    refine wl_nil ?_
    refine st_tn ?_
    refine w_ret ?_
    refine st_br ?_
    refine st_tr ?_
    refine st_ret (vs := [_, _]) [12] Try.results70 ⟨⟨_, rfl, Ent.mono (Ent.lab (l := 4) rfl (says_cel 0)) (fun _ h => run_load_agg tA48l h (Nat.le_of_ble_eq_true rfl))⟩, ⟨rfl, trivial⟩⟩ rfl ?_
    refine ⟨[(lab, _)], rfl, ?_⟩
    exact ⟨⟨k, fr, l, 0⟩, true, _, _, by unfold oneR; rw [if_pos (by omega)], rfl, rfl⟩
  · -- c6.f
    refine w_seq ?_
    refine w_region ?_
    refine wl_det rfl rfl rfl (op_fieldAddr (off := 6) rfl tF48_5l) ?_
    refine wl_det rfl rfl rfl (op_load1 rfl tO25l (Ent.lab (l := 2) rfl (says_cel 6))) ?_
    refine wl_det rfl rfl rfl (op_lenT rfl tS25l (Sl.ent (by first | exact Sl.app (by assumption) _ | exact Sl.app (Sl.app (by assumption) _) _))) ?_
    refine wl_det rfl rfl rfl (op_eql rfl rfl) ?_
    refine wl_det rfl rfl rfl (op_assign rfl) ?_
    refine wl_nil ?_
    refine st_tn ?_
    refine w_cond_d rfl (fun hc13 => ?_) (fun hc13 => ?_)
    · -- c13.t
      refine w_seq ?_
      refine w_region ?_
      refine wl_det rfl rfl rfl (op_loadA rfl tA48l (Ent.lab (l := 3) rfl (says_cel 0)) (Nat.le_of_ble_eq_true rfl)) ?_
      refine wl_op [] rfl rfl rfl rfl (op_fn Try.func85 rfl rfl rfl (copied_any 19 _ _ (Sl.app g _) (by omega))) ?_
      rintro _ _ ⟨a19, c19, rfl, rfl⟩
      refine wl_op0 [4] rfl rfl rfl (op_store rfl rfl tZ48l (by rfl) (by rfl) (by exact Nat.le_of_ble_eq_true rfl)) ?_
      rintro _ _ ⟨rfl, rfl⟩
      refine wl_det rfl rfl rfl (op_assign rfl) ?_
      refine wl_nil ?_
      refine st_tn ?_
      refine w_ret ?_
      refine st_br ?_
      refine st_tr ?_
      refine st_ret (vs := [_, _]) [19] Try.results70 ⟨⟨_, rfl, Ent.mono (Ent.lab (l := 4) rfl (says_cel 0)) (fun _ h => run_load_agg tA48l h (Nat.le_of_ble_eq_true rfl))⟩, ⟨rfl, trivial⟩⟩ rfl ?_
      refine ⟨[(lab, _)], rfl, ?_⟩
      exact ⟨⟨k', fr', m, 0⟩, true, _, _, by unfold oneR; rw [if_neg (by omega), if_pos (by omega)], rfl, rfl⟩
    · -- c13.f
      refine w_skip ?_
      refine st_bn ?_
      refine st_tn ?_
      refine w_seq ?_
      refine w_emp 77 (slO_nil 3 1) ?_
      refine w_region ?_
      refine wl_det rfl rfl rfl (op_build tB48l rfl rfl) ?_
      refine wl_op0 [4] rfl rfl rfl (op_store rfl rfl tZ48l (by rfl) (by rfl) (by exact Nat.le_of_ble_eq_true rfl)) ?_
      rintro _ _ ⟨rfl, rfl⟩
      refine wl_det rfl rfl rfl (op_assign rfl) ?_
      refine wl_nil ?_
      refine st_tn ?_
      refine w_ret ?_
      refine st_ret (vs := [_, _]) [77] Try.results70 ⟨⟨_, rfl, Ent.mono (Ent.lab (l := 4) rfl (says_cel 0)) (fun _ h => run_load_agg tA48l h (Nat.le_of_ble_eq_true rfl))⟩, ⟨rfl, trivial⟩⟩ rfl ?_
      refine ⟨[(lab, _)], rfl, ?_⟩
      exact ⟨zeroR 0, false, none, 0, by unfold oneR; rw [if_neg (by omega), if_neg (by omega)], rfl, rfl⟩

end Go.Proofs.Ytbgddblfalahfaa
