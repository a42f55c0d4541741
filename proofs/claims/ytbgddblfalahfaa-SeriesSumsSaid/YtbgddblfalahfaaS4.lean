/- Contracts of series: like, Coarsen, Moving, Quantile (layer 43). Conditions: none. -/
import Derived.Test.YtbgddblfalahfaaS3
namespace Go.Proofs.Ytbgddblfalahfaa
open Go Go.SL Go.RowKit
set_option linter.unusedVariables false
set_option linter.unusedSimpArgs false
theorem tA24d : aggB Try.prog 24 2 = true := by kernel_rfl
theorem tA48d : aggB Try.prog 48 7 = true := by kernel_rfl
theorem tB48d : placesB Try.prog 48 = some ([(0, 1), (1, 1), (2, 1), (3, 2), (5, 1), (6, 1)], [Value.string .empty, Value.string .empty, Value.int .i64 0, Value.int .i64 0, Value.int .i64 0, Value.int .i64 0, Value.slice none 0 0]) := by kernel_rfl
theorem tF48_2d : fieldB Try.prog 48 2 2 = true := by kernel_rfl
theorem tF48_4d : fieldB Try.prog 48 4 5 = true := by kernel_rfl
theorem tF48_5d : fieldB Try.prog 48 5 6 = true := by kernel_rfl
theorem tL25_1d : zerosB Try.prog 25 3 1 1 = some [Value.int .i64 0] := by kernel_rfl
theorem tMixd : Try.prog.follows .mixedOrders = true := by kernel_rfl
theorem tN48d : (Try.prog.info? 48).bind (·.zero) = some (Value.agg #[Value.string .empty, Value.string .empty, Value.int .i64 0, Value.int .i64 0, Value.int .i64 0, Value.int .i64 0, Value.slice none 0 0]) := by kernel_rfl
theorem tO25d : oneB Try.prog 25 = true := by kernel_rfl
theorem tO3d : oneB Try.prog 3 = true := by kernel_rfl
theorem tP25d : appB Try.prog 25 3 1 8 = true := by kernel_rfl
theorem tS25d : sliceB Try.prog 25 3 1 = true := by kernel_rfl
theorem tZ25d : (Try.prog.info? 25).map (·.size) = some 1 := by kernel_rfl
theorem tZ3d : (Try.prog.info? 3).map (·.size) = some 1 := by kernel_rfl
theorem tZ48d : (Try.prog.info? 48).map (·.size) = some 7 := by kernel_rfl

/-- What a series measures. -/
structure SK where
  svc : ByteArray
  op : ByteArray
  met : Int
  qn : Int
  qd : Int
def K0 : SK := ⟨.empty, .empty, 0, 0, 0⟩
abbrev sr (k : SK) (fr : Int) (v : Value) : Value := .agg #[.string k.svc, .string k.op, .int .i64 k.met, .int .i64 k.qn, .int .i64 k.qd, .int .i64 fr, v]
/-- A series, and an error. -/
structure R where
  k : SK
  fr : Int
  vals : List Int
  e : Int
def zeroR (e : Int) : R := ⟨K0, 0, [], e⟩
def SerV (r : R) (lab : Nat) (u : Value) (ρ : RL) : Prop := ∃ a c, u = .tuple #[sr r.k r.fr (.slice a r.vals.length c), .int .i64 r.e] ∧ ρ = [(lab, slW 3 encZ 1 (.slice a r.vals.length c) r.vals)]
set_option maxHeartbeats 400000 in
set_option maxRecDepth 100000 in
theorem like_any {σ : World} {F : List Res} (k : SK) (fr fr' : Int) (a a' : Option Addr) (m c m' c' : Nat) :
    FnT Try.prog σ F 55 [sr k fr (.slice a m c), .int .i64 fr', .slice a' m' c'] [] (fun u ρ => u = sr k fr' (.slice a' m' c') ∧ ρ = []) := by
  refine fn_of 12 Try.func55 rfl Try.ntmps55 rfl ?_
  refine w_seq ?_
  refine w_region ?_
  refine wl_op [] rfl rfl rfl rfl (op_box (T := 48) (l := 3) rfl) ?_
  rintro _ _ ⟨b3, rfl, rfl⟩
  refine wl_op [] rfl rfl rfl rfl (op_alloc (l := 6) tN48d) ?_
  rintro _ _ ⟨b6, rfl, rfl⟩
  refine wl_nil ?_
  refine st_tn ?_
  refine w_seq ?_
  refine w_region ?_
  refine wl_det rfl rfl rfl (op_move rfl) ?_
  refine wl_det rfl rfl rfl (op_move rfl) ?_
  refine wl_det rfl rfl rfl (op_fieldAddr (off := 5) rfl tF48_4d) ?_
  refine wl_op0 [3] rfl rfl rfl (op_store rfl rfl tZ3d (by rfl) (by rfl) (by exact Nat.le_of_ble_eq_true rfl)) ?_
  rintro _ _ ⟨rfl, rfl⟩
  refine wl_det rfl rfl rfl (op_fieldAddr (off := 6) rfl tF48_5d) ?_
  refine wl_op0 [3] rfl rfl rfl (op_store rfl rfl tZ25d (by rfl) (by rfl) (by exact Nat.le_of_ble_eq_true rfl)) ?_
  rintro _ _ ⟨rfl, rfl⟩
  refine wl_nil ?_
  refine st_tn ?_
  refine w_seq ?_
  refine w_region ?_
  refine wl_det rfl rfl rfl (op_loadA rfl tA48d (Ent.lab (l := 3) rfl (says_cel 0)) (Nat.le_of_ble_eq_true rfl)) ?_
  refine wl_op0 [6] rfl rfl rfl (op_store rfl rfl tZ48d (by rfl) (by rfl) (by exact Nat.le_of_ble_eq_true rfl)) ?_
  rintro _ _ ⟨rfl, rfl⟩
  refine wl_nil ?_
  refine st_tn ?_
  refine w_ret ?_
  refine st_ret (vs := [_]) [] Try.results55 ⟨⟨_, rfl, Ent.mono (Ent.lab (l := 6) rfl (says_cel 0)) (fun _ h => run_load_agg tA48d h (Nat.le_of_ble_eq_true rfl))⟩, trivial⟩ rfl ?_
  refine ⟨_, rfl, ?_⟩
  exact ⟨rfl, rfl⟩

-- CALL sleuth/series.like like_any _ _ _ _ _ _ _ _ _
set_option maxHeartbeats 400000 in
set_option maxRecDepth 100000 in
theorem big_any {σ : World} {F : List Res} (x : Int) : FnT Try.prog σ F 58 [.int .i64 x] [] (fun u ρ => u = .bool (decide (x > 1099511627776)) ∧ ρ = []) := by
  refine fn_of 5 Try.func58 rfl Try.ntmps58 rfl ?_
  refine w_seq ?_
  refine w_region ?_
  refine wl_det rfl rfl rfl (op_assign rfl) ?_
  refine wl_nil ?_
  refine st_tn ?_
  refine w_seq ?_
  refine w_region ?_
  refine wl_det rfl rfl rfl (op_move rfl) ?_
  refine wl_det rfl rfl rfl (op_gtr rfl rfl) ?_
  refine wl_det rfl rfl rfl (op_assign rfl) ?_
  refine wl_nil ?_
  refine st_tn ?_
  refine w_ret ?_
  refine st_ret (vs := [_]) [] Try.results58 ⟨rfl, trivial⟩ rfl ?_
  refine ⟨_, rfl, ?_⟩
  exact ⟨rfl, rfl⟩

/-- One value more. -/
def cstep (lat : Bool) (out : List Int) (k : Nat) (v : Int) : List Int := if k = out.length then out ++ [v] else out.set k (if lat then max (out.getD k 0) v else out.getD k 0 + v)
def coarseN (lat : Bool) (fr sz : Int) (l : List Int) : Nat → List Int
  | 0 => []
  | i + 1 => cstep lat (coarseN lat fr sz l i) ((fr + i) / sz - fr / sz).toNat (l.getD i 0)
theorem div_step {a s : Int} (hs : 0 < s) : (a + 1) / s = a / s ∨ (a + 1) / s = a / s + 1 := by
  have h1 := Int.ediv_mul_add_emod a s
  have h2 := Int.ediv_mul_add_emod (a + 1) s
  have h3 := Int.emod_nonneg a (by omega : s ≠ 0)
  have h4 := Int.emod_lt_of_pos a hs
  have h5 := Int.emod_nonneg (a + 1) (by omega : s ≠ 0)
  have h6 := Int.emod_lt_of_pos (a + 1) hs
  have h7 : (a + 1) / s * s < (a / s + 2) * s := by rw [Int.add_mul]; omega
  have h8 := Int.lt_of_mul_lt_mul_right h7 (by omega)
  have h9 : (a / s - 1) * s < (a + 1) / s * s := by rw [Int.sub_mul]; omega
  have h10 := Int.lt_of_mul_lt_mul_right h9 (by omega)
  omega
theorem coarse_len {lat : Bool} {fr sz : Int} (hs : 0 < sz) {l : List Int} : ∀ i : Nat, ((coarseN lat fr sz l (i + 1)).length : Int) = (fr + i) / sz - fr / sz + 1
  | 0 => by
    unfold coarseN coarseN cstep
    simp
  | i + 1 => by
    have ih := coarse_len (lat := lat) (fr := fr) hs (l := l) i
    have hd := div_step (a := fr + i) hs
    have hle : fr / sz ≤ (fr + i) / sz := Int.ediv_le_ediv hs (by omega)
    rw [show fr + ((i + 1 : Nat) : Int) = fr + i + 1 by omega]
    unfold coarseN cstep
    rw [show fr + ((i + 1 : Nat) : Int) = fr + i + 1 by omega]
    split
    · rename_i h; rw [List.length_append, List.length_singleton]; omega
    · rename_i h; rw [List.length_set]; omega
theorem coarse_cell {lat : Bool} {fr sz : Int} (hs : 0 < sz) {l : List Int} (i : Nat) : 0 ≤ (fr + i) / sz - fr / sz ∧ ((fr + i) / sz - fr / sz = (coarseN lat fr sz l i).length ∨ (fr + i) / sz - fr / sz < (coarseN lat fr sz l i).length) := by
  have hle : fr / sz ≤ (fr + i) / sz := Int.ediv_le_ediv hs (by omega)
  refine ⟨by omega, ?_⟩
  cases i with
  | zero => left; unfold coarseN; simp
  | succ i =>
    have h1 := coarse_len (lat := lat) (fr := fr) hs (l := l) i
    have hd := div_step (a := fr + i) hs
    rw [show fr + ((i + 1 : Nat) : Int) = fr + i + 1 by omega]
    omega
theorem coarse_bd {lat : Bool} {fr sz : Int} {l : List Int} {B : Int} (hB : 0 ≤ B) (hl : ∀ x ∈ l, 0 ≤ x ∧ x ≤ B) : ∀ (i : Nat), ∀ x ∈ coarseN lat fr sz l i, 0 ≤ x ∧ x ≤ i * B
  | 0, x, h => by simp [coarseN] at h
  | i + 1, x, h => by
    have ih := coarse_bd (lat := lat) (fr := fr) (sz := sz) hB hl i
    have hmul : ((i + 1 : Nat) : Int) * B = i * B + B := by rw [Int.natCast_add, Int.add_mul]; simp
    have hi : 0 ≤ (i : Int) * B := Int.mul_nonneg (by omega) hB
    have hv : 0 ≤ l.getD i 0 ∧ l.getD i 0 ≤ B := by
      rw [List.getD_eq_getElem?_getD]
      cases hx : l[i]? with
      | none => simp; omega
      | some y => exact hl y (List.mem_of_getElem? hx)
    unfold coarseN cstep at h
    rw [hmul]
    split at h
    · rcases List.mem_append.1 h with h | h
      · have := ih x h; omega
      · rw [List.mem_singleton] at h; subst h; omega
    · have hg : 0 ≤ (coarseN lat fr sz l i).getD ((fr + i) / sz - fr / sz).toNat 0 ∧ (coarseN lat fr sz l i).getD ((fr + i) / sz - fr / sz).toNat 0 ≤ i * B := by
        rw [List.getD_eq_getElem?_getD]
        cases hx : (coarseN lat fr sz l i)[((fr + i) / sz - fr / sz).toNat]? with
        | none => simp; omega
        | some y => exact ih y (List.mem_of_getElem? hx)
      rcases List.mem_or_eq_of_mem_set h with h | h
      · have := ih x h; omega
      · subst h; split <;> omega
theorem coarse_le {lat : Bool} {fr sz : Int} {l : List Int} : ∀ i : Nat, (coarseN lat fr sz l i).length ≤ i
  | 0 => by simp [coarseN]
  | i + 1 => by
    have := coarse_le (lat := lat) (fr := fr) (sz := sz) (l := l) i
    unfold coarseN cstep
    split <;> simp <;> omega
/-- What Coarsen returns. -/
def coarsenR (k : SK) (fr : Int) (l : List Int) (sz : Int) : R :=
  if sz < 1 ∨ sz > 1048576 then zeroR 2 else
  if (coarseN (decide (k.met = 3)) fr sz l l.length).any (fun x => decide (x > 1099511627776)) then zeroR 20 else ⟨k, fr / sz, coarseN (decide (k.met = 3)) fr sz l l.length, 0⟩
set_option maxHeartbeats 4000000 in
set_option maxRecDepth 100000 in
theorem coarsen_any {σ : World} {F : List Res} {a : Option Addr} {c : Nat} {l : List Int} (lab : Nat) (k : SK) (fr sz : Int) (h : Sl σ F encZ 1 (.slice a l.length c) l) (hl : l.length ≤ 1048576) (hf : 0 ≤ fr ∧ fr ≤ 1048576) (hv : ∀ x ∈ l, 0 ≤ x ∧ x ≤ 1099511627776) :
    FnT Try.prog σ F 24 [sr k fr (.slice a l.length c), .int .i64 sz] [] (SerV (coarsenR k fr l sz) lab) := by
  refine fn_of 81 Try.func24 rfl Try.ntmps24 rfl ?_
  have hle := h.i64
  refine w_seq ?_
  refine w_region ?_
  refine wl_op [] rfl rfl rfl rfl (op_box (T := 48) (l := 2) rfl) ?_
  rintro _ _ ⟨b2, rfl, rfl⟩
  refine wl_op [] rfl rfl rfl rfl (op_alloc (l := 4) tN48d) ?_
  rintro _ _ ⟨b4, rfl, rfl⟩
  refine wl_det rfl rfl rfl (op_assign rfl) ?_
  refine wl_nil ?_
  refine st_tn ?_
  refine w_seq ?_
  refine w_seq ?_
  refine w_cutL [(15, .bool (decide (sz < 1 ∨ sz > 1048576)))] [1, 2, 4] [2, 4] rfl (fun K' hK => ?_) ?_
  · -- cut r1
    refine w_region ?_
    refine wl_det rfl rfl rfl (op_move rfl) ?_
    refine wl_det rfl rfl rfl (op_lss rfl rfl) ?_
    refine wl_det rfl rfl rfl (op_move rfl) ?_
    refine wl_gsplit (t := 12) rfl (fun hg12 => ?_) (fun hg12 => ?_)
    · -- 12 is True
      refine wl_unwanted rfl rfl rfl rfl rfl rfl rfl rfl ?_
      refine wl_unwanted rfl rfl rfl rfl rfl rfl rfl rfl ?_
      refine wl_det rfl rfl rfl (op_pick_t rfl rfl) ?_
      refine wl_nil ?_
      refine st_tn ?_
      exact cut_done1 [2, 4] hK rfl (by first | (rw [decide_eq_decide]; omega) | (symm; rw [decide_eq_false_iff_not]; omega) | (symm; rw [decide_eq_true_iff]; omega) | (simp; done) | (simp; omega) | (simp [*]; done) | (simp [*]; omega)) (by rfl) rfl rfl
    · -- 12 is False
      refine wl_wanted_det rfl rfl rfl rfl rfl rfl rfl (op_move rfl) ?_
      refine wl_wanted_det rfl rfl rfl rfl rfl rfl rfl (op_gtr rfl rfl) ?_
      refine wl_det rfl rfl rfl (op_pick_f rfl rfl) ?_
      refine wl_nil ?_
      refine st_tn ?_
      exact cut_done1 [2, 4] hK rfl (by first | (rw [decide_eq_decide]; omega) | (symm; rw [decide_eq_false_iff_not]; omega) | (symm; rw [decide_eq_true_iff]; omega) | (simp; done) | (simp; omega) | (simp [*]; done) | (simp [*]; omega)) (by rfl) rfl rfl
  · -- behind r1
    show W _ _ _ _ _ [(15, _), (1, _), (2, _), (4, _)] [(2, _), (4, _)] _
    refine w_cond_d rfl (fun hc15 => ?_) (fun hc15 => ?_)
    · -- c15.t
      refine w_seq ?_
      refine w_emp 77 (slO_nil 3 1) ?_
      refine w_region ?_
      refine wl_det rfl rfl rfl (op_build tB48d rfl rfl) ?_
      refine wl_op0 [4] rfl rfl rfl (op_store rfl rfl tZ48d (by rfl) (by rfl) (by exact Nat.le_of_ble_eq_true rfl)) ?_
      rintro _ _ ⟨rfl, rfl⟩
      refine wl_det rfl rfl rfl (op_assign rfl) ?_
      refine wl_nil ?_
      refine st_tn ?_
      refine w_ret ?_
      refine st_tr ?_
      refine st_ret (vs := [_, _]) [77] Try.results24 ⟨⟨_, rfl, Ent.mono (Ent.lab (l := 4) rfl (says_cel 0)) (fun _ h => run_load_agg tA48d h (Nat.le_of_ble_eq_true rfl))⟩, ⟨rfl, trivial⟩⟩ rfl ?_
      refine ⟨[(lab, _)], rfl, ?_⟩
      unfold coarsenR; rw [if_pos hc15]; exact ⟨none, 0, rfl, rfl⟩
    · -- c15.f
      refine w_skip ?_
      refine st_tn ?_
      refine w_seq ?_
      have hdv : fr / sz ≤ 1048576 := by have := Int.ediv_le_self sz hf.1; omega
      have hdv0 : 0 ≤ fr / sz := Int.ediv_nonneg hf.1 (by omega)
      refine w_draw (D := [⟨17, [], [], [], _, false, [], []⟩, ⟨18, [], [], [], _, false, [], []⟩, ⟨19, [1], [], [], _, false, [], []⟩, ⟨20, [], [], [], _, false, [], []⟩, ⟨21, [2, 3], [], [], _, false, [], []⟩, ⟨22, [0, 4], [], [], _, false, [], []⟩, ⟨6, [], [], [], _, false, [], []⟩]) [] [2, 1] [⟨17, [], [], false, [], []⟩, ⟨18, [], [], false, [], []⟩, ⟨19, [1], [], false, [], []⟩, ⟨20, [], [], false, [], []⟩, ⟨21, [2, 3], [], false, [], []⟩, ⟨22, [0, 4], [], false, [], []⟩, ⟨6, [], [], false, [], []⟩] tMixd (by rfl) (by kernel_rfl) (by rfl) (by rfl)
          ⟨.plain rfl (by intro X; exact op_loadA rfl tA48d (Ent.lab (l := 2) rfl (says_cel 0)) (Nat.le_of_ble_eq_true rfl)),
          ⟨.plain rfl (by intro X; exact op_fieldAddr (off := 5) rfl tF48_4d),
          ⟨.plain rfl (by intro X; rintro _ _ ⟨rfl, rfl⟩; exact op_load1 rfl tO3d (Ent.lab (l := 2) rfl (says_cel 5))),
          ⟨.plain rfl (by intro X; exact op_move rfl),
          ⟨.plain rfl (by intro X; rintro _ _ ⟨rfl, rfl⟩ _ _ ⟨rfl, rfl⟩; exact op_quoN rfl rfl (by omega) (by omega) (by omega)),
          ⟨.plain rfl (by intro X; rintro _ _ ⟨rfl, rfl⟩ _ _ ⟨rfl, rfl⟩; exact op_fn Try.func55 rfl rfl rfl (like_any _ _ _ _ _ _ _ _ _)),
          ⟨.plain rfl (by intro X; exact op_alloc (l := 6) tN48d),
          trivial⟩⟩⟩⟩⟩⟩⟩ ?_
      rintro _ _ ⟨rfl, rfl⟩ _ _ ⟨rfl, rfl⟩ _ _ ⟨rfl, rfl⟩ _ _ ⟨rfl, rfl⟩ _ _ ⟨rfl, rfl⟩ _ _ ⟨rfl, rfl⟩ _ _ ⟨b6, rfl, rfl⟩
      refine wl_norm (e' := [(1, _), (2, _), (4, _), (6, _), (22, _)]) (.cons rfl (.cons rfl (.cons rfl (.cons rfl (.cons rfl (.nil _)))))) (by dsimp only [cond_false, cond_true, List.nil_append, List.cons_append]) ?_
      refine wl_op0 [6] rfl rfl rfl (op_store rfl rfl tZ48d (by rfl) (by rfl) (by exact Nat.le_of_ble_eq_true rfl)) ?_
      rintro _ _ ⟨rfl, rfl⟩
      refine wl_nil ?_
      refine st_tn ?_
      refine w_seq ?_
      refine w_seq ?_
      refine w_region ?_
      refine wl_det rfl rfl rfl (op_fieldAddr (off := 6) rfl tF48_5d) ?_
      refine wl_det rfl rfl rfl (op_load1 rfl tO25d (Ent.lab (l := 2) rfl (says_cel 6))) ?_
      refine wl_det rfl rfl rfl (op_lenT rfl tS25d (Sl.ent (by first | exact Sl.app (by assumption) _ | exact Sl.app (Sl.app (by assumption) _) _))) ?_
      refine wl_det rfl rfl rfl (op_move rfl) ?_
      refine wl_nil ?_
      refine st_tn ?_
      refine w_block ?_
      refine w_emp 96 (slO_nil 3 1) ?_
      refine w_loopQ (X := Nat × List Int × Option Addr × Nat) (fun z => z.1 ≤ l.length ∧ z.2.1 = coarseN (decide (k.met = 3)) fr sz l z.1) (fun z => [(26, .int .i64 (z.1))]) (fun z => [(96, slW 3 encZ 1 (.slice (z.2.2.1) (z.2.1).length (z.2.2.2)) (z.2.1)), (6, cel b6 [.string k.svc, .string k.op, .int .i64 k.met, .int .i64 k.qn, .int .i64 k.qd, .int .i64 (fr / sz), .slice (z.2.2.1) (z.2.1).length (z.2.2.2)] 48)]) (fun z => l.length - z.1) ((0, [], none, 0)) [(1, _), (2, _), (4, _), (6, _), (24, _), (25, _)] [(2, _), (4, _)] [96, 6, 2, 4] rfl (rfl) (.cons rfl (.nil _)) (.cons rfl (.cons rfl (.cons rfl (.cons rfl (.cons rfl (.cons rfl (.nil _))))))) (by
          try dsimp only
          exact ⟨Nat.zero_le _, rfl⟩) ?_
      rintro ⟨i, out, a_out, c_out⟩ ⟨hi, ho⟩
      refine w_norm2 (by dsimp only [List.cons_append, List.nil_append]) (by dsimp only [List.cons_append, List.nil_append]) ?_
      try dsimp only at hi ho ⊢
      refine w_seq ?_
      refine w_region ?_
      refine wl_det rfl rfl rfl (op_lss rfl rfl) ?_
      refine wl_nil ?_
      refine st_tn ?_
      refine w_seq ?_
      refine w_cond_d rfl (fun hc27 => ?_) (fun hc27 => ?_)
      · -- c27.t
        obtain ⟨x, hx⟩ := getE (l := l) (i := i) (by omega)
        have hlt := ltE hx
        have hxb := hv x (List.mem_of_getElem? hx)
        have hgd : l.getD i 0 = x := by rw [List.getD_eq_getElem?_getD, hx]; rfl
        have hcc := coarse_cell (lat := decide (k.met = 3)) (fr := fr) (sz := sz) (by omega) (l := l) i
        rw [← ho] at hcc
        have hdi : (fr + i) / sz ≤ fr + i := Int.ediv_le_self sz (by omega)
        have hol := coarse_bd (lat := decide (k.met = 3)) (fr := fr) (sz := sz) (B := 1099511627776) (by omega) hv i
        rw [← ho] at hol
        have hole := coarse_le (lat := decide (k.met = 3)) (fr := fr) (sz := sz) (l := l) i
        rw [← ho] at hole
        refine w_skip ?_
        refine st_tn ?_
        refine w_seq ?_
        refine w_block ?_
        refine w_seq ?_
        refine w_region ?_
        refine wl_det rfl rfl rfl (op_move rfl) ?_
        refine wl_det rfl rfl rfl (op_idx rfl rfl tS25d (Sl.ent (by first | exact Sl.app (by assumption) _ | exact Sl.app (Sl.app (by assumption) _) _)) (by omega)) ?_
        refine wl_det rfl rfl rfl (op_ldx rfl tO3d (by first | exact Sl.app (by assumption) _ | exact Sl.app (Sl.app (by assumption) _) _) (by assumption) (by rfl)) ?_
        refine wl_det rfl rfl rfl (op_assign rfl) ?_
        refine wl_det rfl rfl rfl (op_assign rfl) ?_
        refine wl_nil ?_
        refine st_tn ?_
        refine w_seq ?_
        refine w_draw (D := [⟨31, [], [], [], _, false, [], []⟩, ⟨32, [0], [], [], _, false, [], []⟩, ⟨33, [], [], [], _, false, [], []⟩, ⟨34, [1, 2], [], [], _, false, [], []⟩, ⟨35, [], [], [], _, false, [], []⟩, ⟨36, [3, 4], [], [], _, false, [], []⟩, ⟨37, [], [], [], _, false, [], []⟩, ⟨38, [6], [], [], _, false, [], []⟩]) [] [2, 7, 1, 6] [⟨31, [], [], false, [], []⟩, ⟨32, [0], [], false, [], []⟩, ⟨33, [], [], false, [], []⟩, ⟨34, [1, 2], [], false, [], []⟩, ⟨35, [], [], false, [], []⟩, ⟨36, [3, 4], [], false, [], []⟩, ⟨37, [], [], false, [], []⟩, ⟨38, [6], [], false, [], []⟩] tMixd (by rfl) (by kernel_rfl) (by rfl) (by rfl)
            ⟨.plain rfl (by intro X; exact op_fieldAddr (off := 5) rfl tF48_4d),
            ⟨.plain rfl (by intro X; rintro _ _ ⟨rfl, rfl⟩; exact op_load1 rfl tO3d (Ent.lab (l := 2) rfl (says_cel 5))),
            ⟨.plain rfl (by intro X; exact op_move rfl),
            ⟨.plain rfl (by intro X; rintro _ _ ⟨rfl, rfl⟩ _ _ ⟨rfl, rfl⟩; exact op_add' rfl rfl (by omega)),
            ⟨.plain rfl (by intro X; exact op_move rfl),
            ⟨.plain rfl (by intro X; rintro _ _ ⟨rfl, rfl⟩ _ _ ⟨rfl, rfl⟩; exact op_quoN rfl rfl (by omega) (by omega) (by omega)),
            ⟨.plain rfl (by intro X; exact op_fieldAddr (off := 5) rfl tF48_4d),
            ⟨.plain rfl (by intro X; rintro _ _ ⟨rfl, rfl⟩; exact op_load1 rfl tO3d (Ent.lab (l := 6) rfl (says_cel 5))),
            trivial⟩⟩⟩⟩⟩⟩⟩⟩ ?_
        rintro _ _ ⟨rfl, rfl⟩ _ _ ⟨rfl, rfl⟩ _ _ ⟨rfl, rfl⟩ _ _ ⟨rfl, rfl⟩ _ _ ⟨rfl, rfl⟩ _ _ ⟨rfl, rfl⟩ _ _ ⟨rfl, rfl⟩ _ _ ⟨rfl, rfl⟩
        refine wl_norm (e' := [(1, _), (2, _), (4, _), (6, _), (8, _), (24, _), (25, _), (26, _), (36, _), (38, _)]) (.cons rfl (.cons rfl (.cons rfl (.cons rfl (.cons rfl (.cons rfl (.cons rfl (.cons rfl (.cons rfl (.cons rfl (.nil _))))))))))) (by dsimp only [cond_false, cond_true, List.nil_append, List.cons_append]) ?_
        refine wl_det rfl rfl rfl (op_sub' rfl rfl (by omega)) ?_
        refine wl_det rfl rfl rfl (op_assign rfl) ?_
        refine wl_nil ?_
        refine st_tn ?_
        refine w_block ?_
        refine w_seq ?_
        refine w_region ?_
        refine wl_det rfl rfl rfl (op_move rfl) ?_
        refine wl_det rfl rfl rfl (op_fieldAddr (off := 6) rfl tF48_5d) ?_
        refine wl_det rfl rfl rfl (op_load1 rfl tO25d (Ent.lab (l := 6) rfl (says_cel 6))) ?_
        refine wl_det rfl rfl rfl (op_lenT rfl tS25d (Sl.ent (Sl.lab 96 rfl (by unfold maxLen; omega)))) ?_
        refine wl_det rfl rfl rfl (op_eql rfl rfl) ?_
        refine wl_det rfl rfl rfl (op_assign rfl) ?_
        refine wl_nil ?_
        refine st_tn ?_
        refine w_cond_d rfl (fun hc48 => ?_) (fun hc48 => ?_)
        · -- c48.t
          have hstep : out ++ [x] = cstep (decide (k.met = 3)) out ((fr + i) / sz - fr / sz).toNat x := by unfold cstep; rw [if_pos (by omega)]
          refine w_region ?_
          refine wl_det rfl rfl rfl (op_fieldAddr (off := 6) rfl tF48_5d) ?_
          refine wl_det rfl rfl rfl (op_load1 rfl tO25d (Ent.lab (l := 6) rfl (says_cel 6))) ?_
          refine wl_det rfl rfl rfl (op_move rfl) ?_
          refine wl_op [] rfl rfl rfl rfl (op_buildSlice (enc := encZ) (l := [_]) (lab := 57) tL25_1d rfl rfl (fun _ => rfl) rfl) ?_
          rintro _ _ ⟨a57, c57, rfl, rfl⟩
          refine wl_op [96] rfl rfl rfl rfl (op_append (lab := 96) (lab' := 58) rfl rfl tP25d enc1Z (Sl.lab 57 rfl (by simp [maxLen])) (by first | omega | (simp; done) | (simp; omega) | (simp [*]; omega)) (by first | omega | (simp; done) | (simp; omega) | (simp [*]; omega))) ?_
          rintro _ _ ⟨a58, c58, rfl, rfl⟩
          refine wl_det rfl rfl rfl (op_fieldAddr (off := 6) rfl tF48_5d) ?_
          refine wl_op0 [6] rfl rfl rfl (op_store rfl rfl tZ25d (by rfl) (by rfl) (by exact Nat.le_of_ble_eq_true rfl)) ?_
          rintro _ _ ⟨rfl, rfl⟩
          refine wl_nil ?_
          refine st_bn ?_
          refine st_bn ?_
          refine st_tn ?_
          refine w_region ?_
          refine wl_det rfl rfl rfl (op_add' rfl rfl (by omega)) ?_
          refine wl_det rfl rfl rfl (op_move rfl) ?_
          refine wl_nil ?_
          refine st_roundQ (x := (i, out, a_out, c_out)) ((i + 1, _, _, _)) [58, 6, 2, 4] rfl (rfl) (.cons rfl (.nil _)) (.cons rfl (.cons rfl (.cons rfl (.cons rfl (.cons rfl (.cons rfl (.nil _))))))) (by
              try dsimp only
              refine ⟨by omega, ?_⟩
              unfold coarseN
              rw [← ho, hgd]
              exact hstep) (by
              try dsimp only
              omega) 
        · -- c48.f
          obtain ⟨y, hy⟩ := getE (l := out) (i := ((fr + i) / sz - fr / sz).toNat) (by omega)
          have hyb := hol y (List.mem_of_getElem? hy)
          have hyd : out.getD ((fr + i) / sz - fr / sz).toNat 0 = y := by rw [List.getD_eq_getElem?_getD, hy]; rfl
          refine w_seq ?_
          refine w_region ?_
          refine wl_det rfl rfl rfl (op_fieldAddr (off := 2) rfl tF48_2d) ?_
          refine wl_det rfl rfl rfl (op_load1 rfl tO3d (Ent.lab (l := 2) rfl (says_cel 2))) ?_
          refine wl_det rfl rfl rfl (op_eql rfl rfl) ?_
          refine wl_det rfl rfl rfl (op_assign rfl) ?_
          refine wl_nil ?_
          refine st_tn ?_
          refine w_cond_d rfl (fun hc60 => ?_) (fun hc60 => ?_)
          · -- c60.t
            have hstep : out.set ((fr + i) / sz - fr / sz).toNat (max y x) = cstep (decide (k.met = 3)) out ((fr + i) / sz - fr / sz).toNat x := by unfold cstep; rw [if_neg (by omega), hyd, decide_eq_true hc60, if_pos rfl]
            refine w_draw (D := [⟨64, [], [], [], _, false, [], []⟩, ⟨65, [0], [], [], _, false, [], []⟩, ⟨66, [], [], [], _, false, [], []⟩, ⟨67, [], [], [], _, false, [], []⟩, ⟨68, [3], [], [], _, false, [], []⟩, ⟨69, [], [], [], _, false, [], []⟩, ⟨70, [4, 5], [], [], _, false, [], []⟩, ⟨71, [6], [], [], _, false, [], []⟩, ⟨72, [], [], [], _, false, [], []⟩, ⟨73, [7, 8], [], [], _, false, [], []⟩]) [] [6, 9, 8] [⟨64, [], [], false, [], []⟩, ⟨65, [0], [], false, [], []⟩, ⟨66, [], [], false, [], []⟩, ⟨67, [], [], false, [], []⟩, ⟨68, [3], [], false, [], []⟩, ⟨69, [], [], false, [], []⟩, ⟨70, [4, 5], [], false, [], []⟩, ⟨71, [6], [], false, [], []⟩, ⟨72, [], [], false, [], []⟩, ⟨73, [7, 8], [], false, [], []⟩] tMixd (by rfl) (by kernel_rfl) (by rfl) (by rfl)
                ⟨.plain rfl (by intro X; exact op_fieldAddr (off := 6) rfl tF48_5d),
                ⟨.plain rfl (by intro X; rintro _ _ ⟨rfl, rfl⟩; exact op_load1 rfl tO25d (Ent.lab (l := 6) rfl (says_cel 6))),
                ⟨.plain rfl (by intro X; exact op_move rfl),
                ⟨.plain rfl (by intro X; exact op_fieldAddr (off := 6) rfl tF48_5d),
                ⟨.plain rfl (by intro X; rintro _ _ ⟨rfl, rfl⟩; exact op_load1 rfl tO25d (Ent.lab (l := 6) rfl (says_cel 6))),
                ⟨.plain rfl (by intro X; exact op_move rfl),
                ⟨.plain rfl (by intro X; rintro _ _ ⟨rfl, rfl⟩ _ _ ⟨rfl, rfl⟩; exact op_idxZ rfl rfl tS25d (Sl.ent (Sl.lab 96 rfl (by unfold maxLen; omega))) (by omega) (by omega)),
                ⟨.plain rfl (by intro X; rintro _ _ ⟨rfl, rfl⟩; exact op_ldx rfl tO3d (Sl.lab 96 rfl (by unfold maxLen; omega)) (by assumption) (by rfl)),
                ⟨.plain rfl (by intro X; exact op_move rfl),
                ⟨.plain rfl (by intro X; rintro _ _ ⟨rfl, rfl⟩ _ _ ⟨rfl, rfl⟩; exact op_max rfl rfl),
                trivial⟩⟩⟩⟩⟩⟩⟩⟩⟩⟩ ?_
            rintro _ _ ⟨rfl, rfl⟩ _ _ ⟨rfl, rfl⟩ _ _ ⟨rfl, rfl⟩ _ _ ⟨rfl, rfl⟩ _ _ ⟨rfl, rfl⟩ _ _ ⟨rfl, rfl⟩ _ _ ⟨rfl, rfl⟩ _ _ ⟨rfl, rfl⟩ _ _ ⟨rfl, rfl⟩ _ _ ⟨rfl, rfl⟩
            refine wl_norm (e' := [(1, _), (2, _), (4, _), (6, _), (24, _), (25, _), (26, _), (65, _), (66, _), (73, _)]) (.cons rfl (.cons rfl (.cons rfl (.cons rfl (.cons rfl (.cons rfl (.cons rfl (.cons rfl (.cons rfl (.cons rfl (.nil _))))))))))) (by dsimp only [cond_false, cond_true, List.nil_append, List.cons_append]) ?_
            refine wl_det rfl rfl rfl (op_idxZ rfl rfl tS25d (Sl.ent (Sl.lab 96 rfl (by unfold maxLen; omega))) (by omega) (by omega)) ?_
            refine wl_op0 [96] rfl rfl rfl (op_storeX (lab := 96) (j := 0) (b' := max y x) rfl rfl tO3d rfl rfl rfl hy (by decide) rfl) ?_
            rintro _ _ ⟨rfl, rfl⟩
            refine wl_nil ?_
            refine st_bn ?_
            refine st_bn ?_
            refine st_tn ?_
            refine w_region ?_
            refine wl_det rfl rfl rfl (op_add' rfl rfl (by omega)) ?_
            refine wl_det rfl rfl rfl (op_move rfl) ?_
            refine wl_nil ?_
            refine st_roundQ (x := (i, out, a_out, c_out)) ((i + 1, out.set ((fr + i) / sz - fr / sz).toNat (max y x), a_out, c_out)) [96, 6, 2, 4] rfl (by simp only [List.length_set]; rfl) (.cons rfl (.nil _)) (.cons rfl (.cons rfl (.cons rfl (.cons rfl (.cons rfl (.cons rfl (.nil _))))))) (by
                try dsimp only
                refine ⟨by omega, ?_⟩
                unfold coarseN
                rw [← ho, hgd]
                exact hstep) (by
                try dsimp only
                omega) 
          · -- c60.f
            have hstep : out.set ((fr + i) / sz - fr / sz).toNat (y + x) = cstep (decide (k.met = 3)) out ((fr + i) / sz - fr / sz).toNat x := by unfold cstep; rw [if_neg (by omega), hyd, decide_eq_false hc60]; simp
            refine w_region ?_
            refine wl_det rfl rfl rfl (op_fieldAddr (off := 6) rfl tF48_5d) ?_
            refine wl_det rfl rfl rfl (op_load1 rfl tO25d (Ent.lab (l := 6) rfl (says_cel 6))) ?_
            refine wl_det rfl rfl rfl (op_move rfl) ?_
            refine wl_det rfl rfl rfl (op_idxZ rfl rfl tS25d (Sl.ent (Sl.lab 96 rfl (by unfold maxLen; omega))) (by omega) (by omega)) ?_
            refine wl_det rfl rfl rfl (op_ldx rfl tO3d (Sl.lab 96 rfl (by unfold maxLen; omega)) (by assumption) (by rfl)) ?_
            refine wl_det rfl rfl rfl (op_move rfl) ?_
            refine wl_det rfl rfl rfl (op_add' rfl rfl (by omega)) ?_
            refine wl_det rfl rfl rfl (op_idxZ rfl rfl tS25d (Sl.ent (Sl.lab 96 rfl (by unfold maxLen; omega))) (by omega) (by omega)) ?_
            refine wl_op0 [96] rfl rfl rfl (op_storeX (lab := 96) (j := 0) (b' := y + x) rfl rfl tO3d rfl rfl rfl hy (by decide) rfl) ?_
            rintro _ _ ⟨rfl, rfl⟩
            refine wl_nil ?_
            refine st_bn ?_
            refine st_bn ?_
            refine st_tn ?_
            refine w_region ?_
            refine wl_det rfl rfl rfl (op_add' rfl rfl (by omega)) ?_
            refine wl_det rfl rfl rfl (op_move rfl) ?_
            refine wl_nil ?_
            refine st_roundQ (x := (i, out, a_out, c_out)) ((i + 1, out.set ((fr + i) / sz - fr / sz).toNat (y + x), a_out, c_out)) [96, 6, 2, 4] rfl (by simp only [List.length_set]; rfl) (.cons rfl (.nil _)) (.cons rfl (.cons rfl (.cons rfl (.cons rfl (.cons rfl (.cons rfl (.nil _))))))) (by
                try dsimp only
                refine ⟨by omega, ?_⟩
                unfold coarseN
                rw [← ho, hgd]
                exact hstep) (by
                try dsimp only
                omega) 
      · -- c27.f
        obtain rfl : i = l.length := by omega
        have hlen : out.length ≤ l.length := by rw [ho]; exact coarse_le _
        refine w_exit ?_
        refine st_te ?_
        refine st_te ?_
        refine st_be ?_
        refine st_tn ?_
        refine w_seq ?_
        refine w_seq ?_
        refine w_region ?_
        refine wl_det rfl rfl rfl (op_fieldAddr (off := 6) rfl tF48_5d) ?_
        refine wl_det rfl rfl rfl (op_load1 rfl tO25d (Ent.lab (l := 6) rfl (says_cel 6))) ?_
        refine wl_det rfl rfl rfl (op_fn Try.func57 rfl rfl rfl (containsFuncI (fs := []) (cs := []) (p := fun x => decide (x > 1099511627776)) (Sl.lab 96 rfl (by unfold maxLen; omega)) Try.func58 rfl rfl (fun X r => big_any r))) ?_
        refine wl_nil ?_
        refine st_tn ?_
        refine w_cond rfl (fun hc78 => ?_) (fun hc78 => ?_)
        · -- c78.t
          refine w_emp 77 (slO_nil 3 1) ?_
          refine w_seq ?_
          refine w_region ?_
          refine wl_det rfl rfl rfl (op_build tB48d rfl rfl) ?_
          refine wl_op0 [4] rfl rfl rfl (op_store rfl rfl tZ48d (by rfl) (by rfl) (by exact Nat.le_of_ble_eq_true rfl)) ?_
          rintro _ _ ⟨rfl, rfl⟩
          refine wl_det rfl rfl rfl (op_assign rfl) ?_
          refine wl_nil ?_
          refine st_tn ?_
          refine w_ret ?_
          refine st_tr ?_
          refine st_ret (vs := [_, _]) [77] Try.results24 ⟨⟨_, rfl, Ent.mono (Ent.lab (l := 4) rfl (says_cel 0)) (fun _ h => run_load_agg tA48d h (Nat.le_of_ble_eq_true rfl))⟩, ⟨rfl, trivial⟩⟩ rfl ?_
          refine ⟨[(lab, _)], rfl, ?_⟩
          rw [ho] at hc78; unfold coarsenR; rw [if_neg hc15, if_pos hc78]; exact ⟨none, 0, rfl, rfl⟩
        · -- c78.f
          refine w_skip ?_
          refine st_tn ?_
          refine w_seq ?_
          refine w_region ?_
          refine wl_det rfl rfl rfl (op_loadA rfl tA48d (Ent.lab (l := 6) rfl (says_cel 0)) (Nat.le_of_ble_eq_true rfl)) ?_
          refine wl_op0 [4] rfl rfl rfl (op_store rfl rfl tZ48d (by rfl) (by rfl) (by exact Nat.le_of_ble_eq_true rfl)) ?_
          rintro _ _ ⟨rfl, rfl⟩
          refine wl_det rfl rfl rfl (op_assign rfl) ?_
          refine wl_nil ?_
          refine st_tn ?_
          refine w_ret ?_
          refine st_ret (vs := [_, _]) [96] Try.results24 ⟨⟨_, rfl, Ent.mono (Ent.lab (l := 4) rfl (says_cel 0)) (fun _ h => run_load_agg tA48d h (Nat.le_of_ble_eq_true rfl))⟩, ⟨rfl, trivial⟩⟩ rfl ?_
          refine ⟨[(lab, _)], rfl, ?_⟩
          rw [ho] at hc78; unfold coarsenR; rw [if_neg hc15, if_neg (by rw [hc78]; simp), ← ho]; exact ⟨_, _, rfl, rfl⟩

/-- The sums of the last w values. -/
def movN (l : List Int) (w : Int) : Nat → Int
  | 0 => 0
  | i + 1 => movN l w i + l.getD i 0 - (if (i : Int) ≥ w then l.getD (i - w).toNat 0 else 0)
def movL (l : List Int) (w : Int) (n : Nat) : List Int := (List.range n).map fun i => movN l w (i + 1)
theorem movL_succ (l : List Int) (w : Int) (n : Nat) : movL l w (n + 1) = movL l w n ++ [movN l w (n + 1)] := by unfold movL; rw [List.range_succ, List.map_append]; rfl
theorem mov_bd {l : List Int} {w B : Int} (hB : 0 ≤ B) (hv : ∀ x ∈ l, 0 ≤ x ∧ x ≤ B) : ∀ i : Nat, -(i * B) ≤ movN l w i ∧ movN l w i ≤ i * B
  | 0 => by simp [movN]
  | i + 1 => by
    have ih := mov_bd (w := w) hB hv i
    have hg : ∀ j : Nat, 0 ≤ l.getD j 0 ∧ l.getD j 0 ≤ B := fun j => by
      rw [List.getD_eq_getElem?_getD]
      cases hx : l[j]? with
      | none => simp; omega
      | some y => exact hv y (List.mem_of_getElem? hx)
    have h1 := hg i
    have h2 := hg (i - w).toNat
    have hmul : ((i + 1 : Nat) : Int) * B = i * B + B := by rw [Int.natCast_add, Int.add_mul]; simp
    rw [hmul]
    unfold movN
    split <;> omega
/-- What Moving returns. -/
def movE (k : SK) (w : Int) : Int := if w < 1 ∨ w > 1024 then 2 else if k.met = 3 then 12 else 0
set_option maxHeartbeats 2000000 in
set_option maxRecDepth 100000 in
theorem moving_any {σ : World} {F : List Res} {a : Option Addr} {c : Nat} {l : List Int} (lab : Nat) (k : SK) (fr w : Int) (h : Sl σ F encZ 1 (.slice a l.length c) l) (hl : l.length ≤ 1048576) (hv : ∀ x ∈ l, 0 ≤ x ∧ x ≤ 1099511627776) :
    FnT Try.prog σ F 25 [sr k fr (.slice a l.length c), .int .i64 w] [] (fun u ρ => ∃ m a c, m = (if movE k w = 0 then movL l w l.length else []) ∧ u = .tuple #[.slice a m.length c, .int .i64 (movE k w)] ∧ ρ = [(lab, slW 3 encZ 1 (.slice a m.length c) m)]) := by
  refine fn_of 50 Try.func25 rfl Try.ntmps25 rfl ?_
  have hle := h.i64
  refine w_seq ?_
  refine w_region ?_
  refine wl_op [] rfl rfl rfl rfl (op_box (T := 48) (l := 2) rfl) ?_
  rintro _ _ ⟨b2, rfl, rfl⟩
  refine wl_det rfl rfl rfl (op_assign rfl) ?_
  refine wl_det rfl rfl rfl (op_assign rfl) ?_
  refine wl_nil ?_
  refine st_tn ?_
  refine w_seq ?_
  refine w_block ?_
  refine w_seq ?_
  refine w_cutL [(10, .bool (decide (w < 1 ∨ w > 1024)))] [1, 2] [2] rfl (fun K' hK => ?_) ?_
  · -- cut r1
    refine w_region ?_
    refine wl_det rfl rfl rfl (op_move rfl) ?_
    refine wl_det rfl rfl rfl (op_lss rfl rfl) ?_
    refine wl_det rfl rfl rfl (op_move rfl) ?_
    refine wl_gsplit (t := 13) rfl (fun hg13 => ?_) (fun hg13 => ?_)
    · -- 13 is True
      refine wl_unwanted rfl rfl rfl rfl rfl rfl rfl rfl ?_
      refine wl_unwanted rfl rfl rfl rfl rfl rfl rfl rfl ?_
      refine wl_det rfl rfl rfl (op_pick_t rfl rfl) ?_
      refine wl_det rfl rfl rfl (op_assign rfl) ?_
      refine wl_nil ?_
      refine st_tn ?_
      exact cut_done1 [2] hK rfl (by first | (rw [decide_eq_decide]; omega) | (symm; rw [decide_eq_false_iff_not]; omega) | (symm; rw [decide_eq_true_iff]; omega) | (simp; done) | (simp; omega) | (simp [*]; done) | (simp [*]; omega)) (by rfl) rfl rfl
    · -- 13 is False
      refine wl_wanted_det rfl rfl rfl rfl rfl rfl rfl (op_move rfl) ?_
      refine wl_wanted_det rfl rfl rfl rfl rfl rfl rfl (op_gtr rfl rfl) ?_
      refine wl_det rfl rfl rfl (op_pick_f rfl rfl) ?_
      refine wl_det rfl rfl rfl (op_assign rfl) ?_
      refine wl_nil ?_
      refine st_tn ?_
      exact cut_done1 [2] hK rfl (by first | (rw [decide_eq_decide]; omega) | (symm; rw [decide_eq_false_iff_not]; omega) | (symm; rw [decide_eq_true_iff]; omega) | (simp; done) | (simp; omega) | (simp [*]; done) | (simp [*]; omega)) (by rfl) rfl rfl
  · -- behind r1
    show W _ _ _ _ _ [(10, _), (1, _), (2, _)] [(2, _)] _
    refine w_cond_d rfl (fun hc10 => ?_) (fun hc10 => ?_)
    · -- c10.t
      refine w_seq ?_
      refine w_emp 77 (slO_nil 3 1) ?_
      refine w_region ?_
      refine wl_det rfl rfl rfl (op_assign rfl) ?_
      refine wl_det rfl rfl rfl (op_assign rfl) ?_
      refine wl_nil ?_
      refine st_tn ?_
      refine w_ret ?_
      refine st_br ?_
      refine st_tr ?_
      refine st_ret (vs := [_, _]) [77] Try.results25 ⟨rfl, ⟨rfl, trivial⟩⟩ rfl ?_
      refine ⟨[(lab, _)], rfl, ?_⟩
      have he : movE k w = 2 := by unfold movE; rw [if_pos hc10]
      exact ⟨[], none, 0, by rw [he]; rfl, by rw [he]; rfl, rfl⟩
    · -- c10.f
      refine w_seq ?_
      refine w_region ?_
      refine wl_det rfl rfl rfl (op_fieldAddr (off := 2) rfl tF48_2d) ?_
      refine wl_det rfl rfl rfl (op_load1 rfl tO3d (Ent.lab (l := 2) rfl (says_cel 2))) ?_
      refine wl_det rfl rfl rfl (op_eql rfl rfl) ?_
      refine wl_det rfl rfl rfl (op_assign rfl) ?_
      refine wl_nil ?_
      refine st_tn ?_
      refine w_cond_d rfl (fun hc17 => ?_) (fun hc17 => ?_)
      · -- c17.t
        refine w_seq ?_
        refine w_emp 77 (slO_nil 3 1) ?_
        refine w_region ?_
        refine wl_det rfl rfl rfl (op_assign rfl) ?_
        refine wl_det rfl rfl rfl (op_assign rfl) ?_
        refine wl_nil ?_
        refine st_tn ?_
        refine w_ret ?_
        refine st_br ?_
        refine st_tr ?_
        refine st_ret (vs := [_, _]) [77] Try.results25 ⟨rfl, ⟨rfl, trivial⟩⟩ rfl ?_
        refine ⟨[(lab, _)], rfl, ?_⟩
        have he : movE k w = 12 := by unfold movE; rw [if_neg hc10, if_pos hc17]
        exact ⟨[], none, 0, by rw [he]; rfl, by rw [he]; rfl, rfl⟩
      · -- c17.f
        refine w_skip ?_
        refine st_bn ?_
        refine st_tn ?_
        refine w_seq ?_
        refine w_region ?_
        refine wl_det rfl rfl rfl (op_assign rfl) ?_
        refine wl_nil ?_
        refine st_tn ?_
        refine w_seq ?_
        refine w_region ?_
        refine wl_det rfl rfl rfl (op_assign rfl) ?_
        refine wl_nil ?_
        refine st_tn ?_
        refine w_seq ?_
        refine w_seq ?_
        refine w_region ?_
        refine wl_det rfl rfl rfl (op_fieldAddr (off := 6) rfl tF48_5d) ?_
        refine wl_det rfl rfl rfl (op_load1 rfl tO25d (Ent.lab (l := 2) rfl (says_cel 6))) ?_
        refine wl_det rfl rfl rfl (op_lenT rfl tS25d (Sl.ent (by first | exact Sl.app (by assumption) _ | exact Sl.app (Sl.app (by assumption) _) _))) ?_
        refine wl_det rfl rfl rfl (op_move rfl) ?_
        refine wl_nil ?_
        refine st_tn ?_
        refine w_block ?_
        refine w_emp 6 (slO_nil 3 1) ?_
        refine w_loopQ (X := Nat × Int × List Int × Option Addr × Nat) (fun z => z.1 ≤ l.length ∧ z.2.1 = movN l w z.1 ∧ z.2.2.1 = movL l w z.1) (fun z => [(24, .int .i64 (z.1)), (7, .int .i64 (z.2.1)), (6, .slice (z.2.2.2.1) (z.2.2.1).length (z.2.2.2.2))]) (fun z => [(6, slW 3 encZ 1 (.slice (z.2.2.2.1) (z.2.2.1).length (z.2.2.2.2)) (z.2.2.1))]) (fun z => l.length - z.1) ((0, _, [], none, 0)) [(1, _), (2, _), (22, _), (23, _)] [(2, _)] [6, 2] rfl (rfl) (.cons rfl (.cons rfl (.cons rfl (.nil _)))) (.cons rfl (.cons rfl (.cons rfl (.cons rfl (.nil _))))) (by
            try dsimp only
            exact ⟨Nat.zero_le _, rfl, rfl⟩) ?_
        rintro ⟨i, sum, out, a_out, c_out⟩ ⟨hi, hs, ho⟩
        refine w_norm2 (by dsimp only [List.cons_append, List.nil_append]) (by dsimp only [List.cons_append, List.nil_append]) ?_
        try dsimp only at hi hs ho ⊢
        refine w_seq ?_
        refine w_region ?_
        refine wl_det rfl rfl rfl (op_lss rfl rfl) ?_
        refine wl_nil ?_
        refine st_tn ?_
        refine w_seq ?_
        refine w_cond_d rfl (fun hc25 => ?_) (fun hc25 => ?_)
        · -- c25.t
          obtain ⟨x, hx⟩ := getE (l := l) (i := i) (by omega)
          have hlt := ltE hx
          have hxb := hv x (List.mem_of_getElem? hx)
          have hgd : l.getD i 0 = x := by rw [List.getD_eq_getElem?_getD, hx]; rfl
          have hsb := mov_bd (w := w) (B := 1099511627776) (by omega) hv i
          rw [← hs] at hsb
          have hol : out.length = i := by rw [ho]; unfold movL; simp
          refine w_skip ?_
          refine st_tn ?_
          refine w_seq ?_
          refine w_block ?_
          refine w_seq ?_
          refine w_region ?_
          refine wl_det rfl rfl rfl (op_move rfl) ?_
          refine wl_det rfl rfl rfl (op_idx rfl rfl tS25d (Sl.ent (by first | exact Sl.app (by assumption) _ | exact Sl.app (Sl.app (by assumption) _) _)) (by omega)) ?_
          refine wl_det rfl rfl rfl (op_ldx rfl tO3d (by first | exact Sl.app (by assumption) _ | exact Sl.app (Sl.app (by assumption) _) _) (by assumption) (by rfl)) ?_
          refine wl_det rfl rfl rfl (op_assign rfl) ?_
          refine wl_det rfl rfl rfl (op_assign rfl) ?_
          refine wl_nil ?_
          refine st_tn ?_
          refine w_seq ?_
          refine w_region ?_
          refine wl_det rfl rfl rfl (op_move rfl) ?_
          refine wl_det rfl rfl rfl (op_move rfl) ?_
          refine wl_det rfl rfl rfl (op_add' rfl rfl (by omega)) ?_
          refine wl_det rfl rfl rfl (op_assign rfl) ?_
          refine wl_nil ?_
          refine st_tn ?_
          refine w_seq ?_
          refine w_seq ?_
          refine w_region ?_
          refine wl_det rfl rfl rfl (op_move rfl) ?_
          refine wl_det rfl rfl rfl (op_move rfl) ?_
          refine wl_det rfl rfl rfl (op_geq rfl rfl) ?_
          refine wl_nil ?_
          refine st_tn ?_
          refine w_cond_d rfl (fun hc34 => ?_) (fun hc34 => ?_)
          · -- c34.t
            obtain ⟨y, hy⟩ := getE (l := l) (i := ((i : Int) - w).toNat) (by omega)
            have hyb := hv y (List.mem_of_getElem? hy)
            have hnew : sum + x - y = movN l w (i + 1) := by unfold movN; rw [if_pos hc34, ← hs, hgd, List.getD_eq_getElem?_getD, hy]; rfl
            refine w_region ?_
            refine wl_det rfl rfl rfl (op_move rfl) ?_
            refine wl_det rfl rfl rfl (op_fieldAddr (off := 6) rfl tF48_5d) ?_
            refine wl_det rfl rfl rfl (op_load1 rfl tO25d (Ent.lab (l := 2) rfl (says_cel 6))) ?_
            refine wl_det rfl rfl rfl (op_move rfl) ?_
            refine wl_det rfl rfl rfl (op_move rfl) ?_
            refine wl_det rfl rfl rfl (op_sub' rfl rfl (by omega)) ?_
            refine wl_det rfl rfl rfl (op_idxZ rfl rfl tS25d (Sl.ent (by first | exact Sl.app (by assumption) _ | exact Sl.app (Sl.app (by assumption) _) _)) (by omega) (by omega)) ?_
            refine wl_det rfl rfl rfl (op_ldx rfl tO3d (by first | exact Sl.app (by assumption) _ | exact Sl.app (Sl.app (by assumption) _) _) (by assumption) (by rfl)) ?_
            refine wl_det rfl rfl rfl (op_sub' rfl rfl (by omega)) ?_
            refine wl_det rfl rfl rfl (op_assign rfl) ?_
            refine wl_nil ?_
            refine st_tn ?_
            refine w_region ?_
            refine wl_det rfl rfl rfl (op_move rfl) ?_
            refine wl_det rfl rfl rfl (op_move rfl) ?_
            refine wl_op [] rfl rfl rfl rfl (op_buildSlice (enc := encZ) (l := [_]) (lab := 46) tL25_1d rfl rfl (fun _ => rfl) rfl) ?_
            rintro _ _ ⟨a46, c46, rfl, rfl⟩
            refine wl_op [6] rfl rfl rfl rfl (op_append (lab := 6) (lab' := 47) rfl rfl tP25d enc1Z (Sl.lab 46 rfl (by simp [maxLen])) (by first | omega | (simp; done) | (simp; omega) | (simp [*]; omega)) (by first | omega | (simp; done) | (simp; omega) | (simp [*]; omega))) ?_
            rintro _ _ ⟨a47, c47, rfl, rfl⟩
            refine wl_det rfl rfl rfl (op_assign rfl) ?_
            refine wl_nil ?_
            refine st_bn ?_
            refine st_tn ?_
            refine w_region ?_
            refine wl_det rfl rfl rfl (op_add' rfl rfl (by omega)) ?_
            refine wl_det rfl rfl rfl (op_move rfl) ?_
            refine wl_nil ?_
            refine st_roundQ (x := (i, sum, out, a_out, c_out)) ((i + 1, _, _, _, _)) [47, 2] rfl (rfl) (.cons rfl (.cons rfl (.cons rfl (.nil _)))) (.cons rfl (.cons rfl (.cons rfl (.cons rfl (.nil _))))) (by
                try dsimp only
                refine ⟨by omega, ?_, ?_⟩
                · exact hnew
                · rw [movL_succ, ← ho, ← hnew]) (by
                try dsimp only
                omega) 
          · -- c34.f
            have hnew : sum + x = movN l w (i + 1) := by unfold movN; rw [if_neg hc34, ← hs, hgd]; omega
            refine w_skip ?_
            refine st_tn ?_
            refine w_region ?_
            refine wl_det rfl rfl rfl (op_move rfl) ?_
            refine wl_det rfl rfl rfl (op_move rfl) ?_
            refine wl_op [] rfl rfl rfl rfl (op_buildSlice (enc := encZ) (l := [_]) (lab := 46) tL25_1d rfl rfl (fun _ => rfl) rfl) ?_
            rintro _ _ ⟨a46, c46, rfl, rfl⟩
            refine wl_op [6] rfl rfl rfl rfl (op_append (lab := 6) (lab' := 47) rfl rfl tP25d enc1Z (Sl.lab 46 rfl (by simp [maxLen])) (by first | omega | (simp; done) | (simp; omega) | (simp [*]; omega)) (by first | omega | (simp; done) | (simp; omega) | (simp [*]; omega))) ?_
            rintro _ _ ⟨a47, c47, rfl, rfl⟩
            refine wl_det rfl rfl rfl (op_assign rfl) ?_
            refine wl_nil ?_
            refine st_bn ?_
            refine st_tn ?_
            refine w_region ?_
            refine wl_det rfl rfl rfl (op_add' rfl rfl (by omega)) ?_
            refine wl_det rfl rfl rfl (op_move rfl) ?_
            refine wl_nil ?_
            refine st_roundQ (x := (i, sum, out, a_out, c_out)) ((i + 1, _, _, _, _)) [47, 2] rfl (rfl) (.cons rfl (.cons rfl (.cons rfl (.nil _)))) (.cons rfl (.cons rfl (.cons rfl (.cons rfl (.nil _))))) (by
                try dsimp only
                refine ⟨by omega, ?_, ?_⟩
                · exact hnew
                · rw [movL_succ, ← ho, ← hnew]) (by
                try dsimp only
                omega) 
        · -- c25.f
          refine w_exit ?_
          refine st_te ?_
          refine st_te ?_
          refine st_be ?_
          refine st_tn ?_
          refine w_seq ?_
          refine w_region ?_
          refine wl_det rfl rfl rfl (op_move rfl) ?_
          refine wl_det rfl rfl rfl (op_assign rfl) ?_
          refine wl_det rfl rfl rfl (op_assign rfl) ?_
          refine wl_nil ?_
          refine st_tn ?_
          refine w_ret ?_
          refine st_ret (vs := [_, _]) [6] Try.results25 ⟨rfl, ⟨rfl, trivial⟩⟩ rfl ?_
          refine ⟨[(lab, _)], rfl, ?_⟩
          obtain rfl : i = l.length := by omega
          have he : movE k w = 0 := by unfold movE; rw [if_neg hc10, if_neg hc17]
          exact ⟨out, _, _, by rw [he, if_pos rfl, ho], by rw [he]; rfl, rfl⟩

set_option maxHeartbeats 400000 in
set_option maxRecDepth 100000 in
theorem quantile_any {σ : World} {F : List Res} {a : Option Addr} {c : Nat} {l : List Int} (x y : Int) (h : Sl σ F encZ 1 (.slice a l.length c) l) (hl : l.length ≤ 1099511627776) (hx : -9223372036854775808 ≤ x ∧ x ≤ 9223372036854775807) (hy : -9223372036854775808 ≤ y ∧ y ≤ 9223372036854775807) :
    FnT Try.prog σ F 15 [.slice a l.length c, frac x y] [] (fun u ρ => u = .tuple #[.int .i64 (if goodB x y then quantZ l x y else 0), .int .i64 (if goodB x y then 0 else 3)] ∧ ρ = []) := by
  refine fn_of 12 Try.func15 rfl Try.ntmps15 rfl ?_
  refine w_seq ?_
  refine w_region ?_
  refine wl_op [] rfl rfl rfl rfl (op_box (T := 24) (l := 3) rfl) ?_
  rintro _ _ ⟨b3, rfl, rfl⟩
  refine wl_det rfl rfl rfl (op_assign rfl) ?_
  refine wl_det rfl rfl rfl (op_assign rfl) ?_
  refine wl_nil ?_
  refine st_tn ?_
  refine w_seq ?_
  refine w_seq ?_
  refine w_region ?_
  refine wl_det rfl rfl rfl (op_loadA rfl tA24d (Ent.lab (l := 3) rfl (says_cel 0)) (Nat.le_of_ble_eq_true rfl)) ?_
  refine wl_det rfl rfl rfl (op_fn Try.func46 rfl rfl rfl (squant_any _ _ (by omega) (by omega))) ?_
  refine wl_det rfl rfl rfl (op_not_d rfl) ?_
  refine wl_nil ?_
  refine st_tn ?_
  refine w_cond_d rfl (fun hc8 => ?_) (fun hc8 => ?_)
  · -- c8.t
    refine w_seq ?_
    refine w_region ?_
    refine wl_det rfl rfl rfl (op_assign rfl) ?_
    refine wl_det rfl rfl rfl (op_assign rfl) ?_
    refine wl_nil ?_
    refine st_tn ?_
    refine w_ret ?_
    refine st_tr ?_
    refine st_ret (vs := [_, _]) [] Try.results15 ⟨rfl, ⟨rfl, trivial⟩⟩ rfl ?_
    refine ⟨_, rfl, ?_⟩
    rw [if_neg hc8, if_neg hc8]; exact ⟨rfl, rfl⟩
  · -- c8.f
    refine w_skip ?_
    refine st_tn ?_
    refine w_seq ?_
    refine w_region ?_
    refine wl_det rfl rfl rfl (op_move rfl) ?_
    refine wl_det rfl rfl rfl (op_loadA rfl tA24d (Ent.lab (l := 3) rfl (says_cel 0)) (Nat.le_of_ble_eq_true rfl)) ?_
    refine wl_det rfl rfl rfl (op_fn Try.func47 rfl rfl rfl (rank_any x y (Sl.app h _) hl (Classical.byContradiction hc8))) ?_
    refine wl_det rfl rfl rfl (op_assign rfl) ?_
    refine wl_det rfl rfl rfl (op_assign rfl) ?_
    refine wl_nil ?_
    refine st_tn ?_
    refine w_ret ?_
    refine st_ret (vs := [_, _]) [] Try.results15 ⟨rfl, ⟨rfl, trivial⟩⟩ rfl ?_
    refine ⟨_, rfl, ?_⟩
    have hg : goodB x y := Classical.byContradiction hc8
    rw [if_pos hg, if_pos hg]; exact ⟨rfl, rfl⟩

end Go.Proofs.Ytbgddblfalahfaa
