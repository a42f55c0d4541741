/- Contracts on fractions and quantiles (layers 2 and 43). Conditions: none. -/
import Derived.Test.YtbgddblfalahfaaS1
namespace Go.Proofs.Ytbgddblfalahfaa
open Go Go.SL Go.RowKit
set_option linter.unusedVariables false
set_option linter.unusedSimpArgs false
theorem tA24b : aggB Try.prog 24 2 = true := by kernel_rfl
theorem tB24b : placesB Try.prog 24 = some ([(0, 1), (1, 1)], [Value.int .i64 0, Value.int .i64 0]) := by kernel_rfl
theorem tF24_0b : fieldB Try.prog 24 0 0 = true := by kernel_rfl
theorem tMixb : Try.prog.follows .mixedOrders = true := by kernel_rfl
theorem tN24b : (Try.prog.info? 24).bind (·.zero) = some (Value.agg #[Value.int .i64 0, Value.int .i64 0]) := by kernel_rfl
theorem tO3b : oneB Try.prog 3 = true := by kernel_rfl
theorem tZ24b : (Try.prog.info? 24).map (·.size) = some 2 := by kernel_rfl
theorem tZ3b : (Try.prog.info? 3).map (·.size) = some 1 := by kernel_rfl

def encY (x : Int) : List Value := [.int .u8 x]
theorem eq24 (a b c d : Int) (w : World) : (Op.equal 24 (.agg #[.int .i64 a, .int .i64 b]) (.agg #[.int .i64 c, .int .i64 d])).run Try.prog w = .ok (decide ((a, b) = (c, d))) w := by
  have hs : Try.prog.stoodInHeld 24 = false := by kernel_rfl
  have hf : Try.prog.fieldsOf 24 = #[{ name := "Num", type := 3, offset := 0, embedded := false, tag := "", pkgPath := "", byteOffset := 0 }, { name := "Den", type := 3, offset := 1, embedded := false, tag := "", pkgPath := "", byteOffset := 8 }] := by kernel_rfl
  have ha : ∀ w, (isAgg 3).run Try.prog w = .ok false w := fun w => by unfold isAgg; rw [Sem.run_bind, run_underlying Try.underlying3 w]; rfl
  show (Op.equalIn (9999 + 1) 24 _ _).run Try.prog w = _
  rw [run_equalIn_agg w 9999 24 _ _ (by kernel_rfl) hs, hf]
  simp only [Op.eqFields, List.toList_toArray]
  simp [part, Sem.run_bind, ha, run_equalIn_int w 9998 3 .i64 .i64 _ _ Try.underlying3, Op.eqFields]
  by_cases h1 : a = c <;> by_cases h2 : b = d <;> simp [h1, h2, part, Sem.run_bind, ha, run_equalIn_int w 9998 3 .i64 .i64 _ _ Try.underlying3, Op.eqFields]
set_option maxHeartbeats 400000 in
set_option maxRecDepth 100000 in
theorem gcd_any {σ : World} {F : List Res} (a b : Nat) (ha : a ≤ 18446744073709551615) (hb : b ≤ 18446744073709551615) :
    FnT Try.prog σ F 79 [.int .u64 a, .int .u64 b] [] (fun u ρ => u = .int .u64 (Nat.gcd a b : Nat) ∧ ρ = []) := by
  refine fn_of 12 Try.func79 rfl Try.ntmps79 rfl ?_
  refine w_seq ?_
  refine w_region ?_
  refine wl_det rfl rfl rfl (op_assign rfl) ?_
  refine wl_nil ?_
  refine st_tn ?_
  refine w_seq ?_
  refine w_block ?_
  refine w_loopQ (X := Nat × Nat) (fun z => (z.1 ≤ 18446744073709551615 ∧ z.2 ≤ 18446744073709551615) ∧ Nat.gcd z.1 z.2 = Nat.gcd a b) (fun z => [(0, .int .u64 (z.1)), (1, .int .u64 (z.2))]) (fun _ => []) (fun z => z.2) ((a, b)) [] [] [] rfl (rfl) (.cons rfl (.cons rfl (.nil _))) (.nil _) (by
      try dsimp only
      exact ⟨⟨ha, hb⟩, rfl⟩) ?_
  rintro ⟨x, y⟩ ⟨⟨hx, hy⟩, hg⟩
  refine w_norm2 (by dsimp only [List.cons_append, List.nil_append]) (by dsimp only [List.cons_append, List.nil_append]) ?_
  try dsimp only at hx hy hg ⊢
  refine w_seq ?_
  refine w_seq ?_
  refine w_region ?_
  refine wl_det rfl rfl rfl (op_move rfl) ?_
  refine wl_det rfl rfl rfl (op_neq rfl rfl) ?_
  refine wl_nil ?_
  refine st_tn ?_
  refine w_cond_d rfl (fun hc6 => ?_) (fun hc6 => ?_)
  · -- c6.t
    refine w_skip ?_
    refine st_tn ?_
    refine w_block ?_
    refine w_draw (D := [⟨7, [], [], [], _, false, [], []⟩, ⟨8, [], [], [], _, false, [], [0]⟩, ⟨9, [], [], [], _, false, [], []⟩, ⟨10, [1, 2], [], [], _, false, [], []⟩, ⟨0, [0], [], [], _, false, [], []⟩]) [] [1] [⟨7, [], [], false, [], []⟩, ⟨8, [], [], false, [], [0]⟩, ⟨9, [], [], false, [], []⟩, ⟨10, [1, 2], [], false, [], []⟩, ⟨0, [0], [], false, [], []⟩] tMixb (by rfl) (by kernel_rfl) (by rfl) (by rfl)
        ⟨.plain rfl (by intro X; exact op_move rfl),
        ⟨.plain rfl (by intro X; exact op_move rfl),
        ⟨.plain rfl (by intro X; exact op_move rfl),
        ⟨.plain rfl (by intro X; rintro _ _ ⟨rfl, rfl⟩ _ _ ⟨rfl, rfl⟩; exact op_remN rfl rfl (by omega) (by omega)),
        ⟨.plain rfl (by intro X; rintro _ _ ⟨rfl, rfl⟩; exact op_assign rfl),
        trivial⟩⟩⟩⟩⟩ ?_
    rintro _ _ ⟨rfl, rfl⟩ _ _ ⟨rfl, rfl⟩ _ _ ⟨rfl, rfl⟩ _ _ ⟨rfl, rfl⟩ _ _ ⟨rfl, rfl⟩
    refine wl_norm (e' := [(0, _), (10, _)]) (.cons rfl (.cons rfl (.nil _))) (by dsimp only [cond_false, cond_true, List.nil_append, List.cons_append]) ?_
    refine wl_det rfl rfl rfl (op_assign rfl) ?_
    refine wl_nil ?_
    refine st_bn ?_
    refine st_roundQ (x := (x, y)) ((y, x % y)) [] rfl (rfl) (.cons rfl (.cons rfl (.nil _))) (.nil _) (by
        try dsimp only
        exact ⟨⟨hy, by have := Nat.mod_lt x (show 0 < y by omega); omega⟩, by rw [← hg, Nat.gcd_comm x y, Nat.gcd_rec y x, Nat.gcd_comm]⟩) (by
        try dsimp only
        exact Nat.mod_lt x (by omega)) 
  · -- c6.f
    refine w_exit ?_
    refine st_te ?_
    refine st_te ?_
    refine st_be ?_
    refine st_tn ?_
    refine w_seq ?_
    refine w_region ?_
    refine wl_det rfl rfl rfl (op_move rfl) ?_
    refine wl_det rfl rfl rfl (op_assign rfl) ?_
    refine wl_nil ?_
    refine st_tn ?_
    refine w_ret ?_
    refine st_ret (vs := [_]) [] Try.results79 ⟨rfl, trivial⟩ rfl ?_
    refine ⟨_, rfl, ?_⟩
    refine ⟨?_, rfl⟩; have h0 : y = 0 := by omega
    subst h0; rw [← hg, Nat.gcd_zero_right]; rfl

set_option maxHeartbeats 400000 in
set_option maxRecDepth 100000 in
theorem mag_any {σ : World} {F : List Res} (x : Int) (hx : -9223372036854775808 ≤ x ∧ x ≤ 9223372036854775807) :
    FnT Try.prog σ F 78 [.int .i64 x] [] (fun u ρ => u = .int .u64 (x.natAbs : Nat) ∧ ρ = []) := by
  refine fn_of 10 Try.func78 rfl Try.ntmps78 rfl ?_
  refine w_seq ?_
  refine w_region ?_
  refine wl_det rfl rfl rfl (op_assign rfl) ?_
  refine wl_nil ?_
  refine st_tn ?_
  refine w_seq ?_
  refine w_seq ?_
  refine w_region ?_
  refine wl_det rfl rfl rfl (op_move rfl) ?_
  refine wl_det rfl rfl rfl (op_lss rfl rfl) ?_
  refine wl_nil ?_
  refine st_tn ?_
  refine w_cond_d rfl (fun hc4 => ?_) (fun hc4 => ?_)
  · -- c4.t
    refine w_seq ?_
    refine w_region ?_
    refine wl_det rfl rfl rfl (op_move rfl) ?_
    refine wl_det rfl rfl rfl (op_val (v' := .int .u64 (x + 18446744073709551616)) (by rw [wrap_u64_neg (by omega)]) (op_conv rfl (by rw [Try.underlying3]; rfl) Try.underlying124)) ?_
    refine wl_det rfl rfl rfl (op_val (v' := .int .u64 (-x)) (by rw [show (0 : Int) - (x + 18446744073709551616) = -x - 18446744073709551616 by omega]; simp [IntKind.wrap, IntKind.bits, IntKind.signed]; omega) (op_negK rfl)) ?_
    refine wl_det rfl rfl rfl (op_assign rfl) ?_
    refine wl_nil ?_
    refine st_tn ?_
    refine w_ret ?_
    refine st_tr ?_
    refine st_ret (vs := [_]) [] Try.results78 ⟨rfl, trivial⟩ rfl ?_
    refine ⟨_, rfl, ?_⟩
    refine ⟨?_, rfl⟩; show Value.int .u64 (-x) = _; congr 1; omega
  · -- c4.f
    refine w_skip ?_
    refine st_tn ?_
    refine w_seq ?_
    refine w_region ?_
    refine wl_det rfl rfl rfl (op_move rfl) ?_
    refine wl_det rfl rfl rfl (op_convU64 rfl (by rw [Try.underlying3]; rfl) Try.underlying124 (by omega)) ?_
    refine wl_det rfl rfl rfl (op_assign rfl) ?_
    refine wl_nil ?_
    refine st_tn ?_
    refine w_ret ?_
    refine st_ret (vs := [_]) [] Try.results78 ⟨rfl, trivial⟩ rfl ?_
    refine ⟨_, rfl, ?_⟩
    refine ⟨?_, rfl⟩; show Value.int .u64 x = _; congr 1; omega

/-- The fraction of two numbers, and the error. -/
def mkF (num den : Int) : Int × Int × Int :=
  if den = 0 then (0, 0, 19) else
  if num.natAbs / Nat.gcd num.natAbs den.natAbs > 1048576 ∨ den.natAbs / Nat.gcd num.natAbs den.natAbs > 1048576 then (0, 0, 20) else
  ((if (decide (num < 0)) != (decide (den < 0)) then -((num.natAbs / Nat.gcd num.natAbs den.natAbs : Nat) : Int) else ((num.natAbs / Nat.gcd num.natAbs den.natAbs : Nat) : Int)), ((den.natAbs / Nat.gcd num.natAbs den.natAbs : Nat) : Int), 0)
theorem mkF_ok {num den : Int} (h : mkF num den = (num, den, 0)) : den ≠ 0 ∧ -1048576 ≤ num ∧ num ≤ 1048576 ∧ 0 ≤ den ∧ den ≤ 1048576 := by
  unfold mkF at h
  split at h
  · simp at h
  · rename_i h0
    split at h
    · simp at h
    · rename_i h1
      simp only [Prod.mk.injEq] at h
      obtain ⟨e1, e2, _⟩ := h
      refine ⟨h0, ?_⟩
      generalize num.natAbs / Nat.gcd num.natAbs den.natAbs = p at *
      generalize den.natAbs / Nat.gcd num.natAbs den.natAbs = q at *
      split at e1 <;> omega
set_option maxHeartbeats 1000000 in
set_option maxRecDepth 100000 in
theorem mk_any {σ : World} {F : List Res} (x y : Int) (hx : -9223372036854775808 ≤ x ∧ x ≤ 9223372036854775807) (hy : -9223372036854775808 ≤ y ∧ y ≤ 9223372036854775807) :
    FnT Try.prog σ F 54 [.int .i64 x, .int .i64 y] [] (fun u ρ => u = .tuple #[.agg #[.int .i64 (mkF x y).1, .int .i64 (mkF x y).2.1], .int .i64 (mkF x y).2.2] ∧ ρ = []) := by
  refine fn_of 48 Try.func54 rfl Try.ntmps54 rfl ?_
  have hax : x.natAbs ≤ 9223372036854775808 := by omega
  have hay : y.natAbs ≤ 9223372036854775808 := by omega
  refine w_seq ?_
  refine w_region ?_
  refine wl_op [] rfl rfl rfl rfl (op_alloc (l := 4) tN24b) ?_
  rintro _ _ ⟨b4, rfl, rfl⟩
  refine wl_det rfl rfl rfl (op_assign rfl) ?_
  refine wl_nil ?_
  refine st_tn ?_
  refine w_seq ?_
  refine w_seq ?_
  refine w_region ?_
  refine wl_det rfl rfl rfl (op_move rfl) ?_
  refine wl_det rfl rfl rfl (op_eql rfl rfl) ?_
  refine wl_nil ?_
  refine st_tn ?_
  refine w_cond_d rfl (fun hc11 => ?_) (fun hc11 => ?_)
  · -- c11.t
    refine w_seq ?_
    refine w_region ?_
    refine wl_det rfl rfl rfl (op_build tB24b rfl rfl) ?_
    refine wl_op0 [4] rfl rfl rfl (op_store rfl rfl tZ24b (by rfl) (by rfl) (by exact Nat.le_of_ble_eq_true rfl)) ?_
    rintro _ _ ⟨rfl, rfl⟩
    refine wl_det rfl rfl rfl (op_assign rfl) ?_
    refine wl_nil ?_
    refine st_tn ?_
    refine w_ret ?_
    refine st_tr ?_
    refine st_ret (vs := [_, _]) [] Try.results54 ⟨⟨_, rfl, Ent.mono (Ent.lab (l := 4) rfl (says_cel 0)) (fun _ h => run_load_agg tA24b h (Nat.le_of_ble_eq_true rfl))⟩, ⟨rfl, trivial⟩⟩ rfl ?_
    refine ⟨_, rfl, ?_⟩
    rw [show mkF x y = (0, 0, 19) by unfold mkF; rw [if_pos hc11]]; exact ⟨rfl, rfl⟩
  · -- c11.f
    have hgp : 0 < Nat.gcd x.natAbs y.natAbs := Nat.gcd_pos_of_pos_right _ (by omega)
    have hqx : ((x.natAbs : Int) / (Nat.gcd x.natAbs y.natAbs : Nat)) = ((x.natAbs / Nat.gcd x.natAbs y.natAbs : Nat) : Int) := by rw [Int.natCast_ediv]
    have hqy : ((y.natAbs : Int) / (Nat.gcd x.natAbs y.natAbs : Nat)) = ((y.natAbs / Nat.gcd x.natAbs y.natAbs : Nat) : Int) := by rw [Int.natCast_ediv]
    refine w_skip ?_
    refine st_tn ?_
    refine w_seq ?_
    refine w_region ?_
    refine wl_det rfl rfl rfl (op_move rfl) ?_
    refine wl_det rfl rfl rfl (op_fn Try.func78 rfl rfl rfl (mag_any _ (by omega))) ?_
    refine wl_det rfl rfl rfl (op_move rfl) ?_
    refine wl_det rfl rfl rfl (op_fn Try.func78 rfl rfl rfl (mag_any _ (by omega))) ?_
    refine wl_det rfl rfl rfl (op_assign rfl) ?_
    refine wl_det rfl rfl rfl (op_assign rfl) ?_
    refine wl_nil ?_
    refine st_tn ?_
    refine w_seq ?_
    refine w_region ?_
    refine wl_det rfl rfl rfl (op_move rfl) ?_
    refine wl_det rfl rfl rfl (op_move rfl) ?_
    refine wl_det rfl rfl rfl (op_fn Try.func79 rfl rfl rfl (gcd_any _ _ (by omega) (by omega))) ?_
    refine wl_det rfl rfl rfl (op_assign rfl) ?_
    refine wl_nil ?_
    refine st_tn ?_
    refine w_seq ?_
    refine w_draw (D := [⟨20, [], [], [], _, false, [], [6]⟩, ⟨21, [], [], [], _, false, [], []⟩, ⟨22, [0, 1], [], [], _, false, [], []⟩, ⟨23, [], [], [], _, false, [], []⟩, ⟨24, [], [], [], _, false, [], []⟩, ⟨25, [3, 4], [], [], _, false, [], []⟩, ⟨6, [2], [], [], _, false, [], []⟩]) [] [8, 7] [⟨20, [], [], false, [], [6]⟩, ⟨21, [], [], false, [], []⟩, ⟨22, [0, 1], [], false, [], []⟩, ⟨23, [], [], false, [], []⟩, ⟨24, [], [], false, [], []⟩, ⟨25, [3, 4], [], false, [], []⟩, ⟨6, [2], [], false, [], []⟩] tMixb (by rfl) (by kernel_rfl) (by rfl) (by rfl)
        ⟨.plain rfl (by intro X; exact op_move rfl),
        ⟨.plain rfl (by intro X; exact op_move rfl),
        ⟨.plain rfl (by intro X; rintro _ _ ⟨rfl, rfl⟩ _ _ ⟨rfl, rfl⟩; exact op_val (v' := .int .u64 ((x.natAbs / Nat.gcd x.natAbs y.natAbs : Nat) : Int)) (by rw [hqx]) (op_quoU rfl rfl (by omega) (by omega) (by omega))),
        ⟨.plain rfl (by intro X; exact op_move rfl),
        ⟨.plain rfl (by intro X; exact op_move rfl),
        ⟨.plain rfl (by intro X; rintro _ _ ⟨rfl, rfl⟩ _ _ ⟨rfl, rfl⟩; exact op_val (v' := .int .u64 ((y.natAbs / Nat.gcd x.natAbs y.natAbs : Nat) : Int)) (by rw [hqy]) (op_quoU rfl rfl (by omega) (by omega) (by omega))),
        ⟨.plain rfl (by intro X; rintro _ _ ⟨rfl, rfl⟩; exact op_assign rfl),
        trivial⟩⟩⟩⟩⟩⟩⟩ ?_
    rintro _ _ ⟨rfl, rfl⟩ _ _ ⟨rfl, rfl⟩ _ _ ⟨rfl, rfl⟩ _ _ ⟨rfl, rfl⟩ _ _ ⟨rfl, rfl⟩ _ _ ⟨rfl, rfl⟩ _ _ ⟨rfl, rfl⟩
    refine wl_norm (e' := [(0, _), (1, _), (4, _), (6, _), (25, _)]) (.cons rfl (.cons rfl (.cons rfl (.cons rfl (.cons rfl (.nil _)))))) (by dsimp only [cond_false, cond_true, List.nil_append, List.cons_append]) ?_
    refine wl_det rfl rfl rfl (op_assign rfl) ?_
    refine wl_nil ?_
    refine st_tn ?_
    refine w_seq ?_
    refine w_seq ?_
    generalize hp : x.natAbs / Nat.gcd x.natAbs y.natAbs = p
    generalize hq : y.natAbs / Nat.gcd x.natAbs y.natAbs = q
    refine w_cutL [(31, .bool (decide (p > 1048576 ∨ q > 1048576)))] [0, 1, 4, 6, 7] [4] rfl (fun K' hK => ?_) ?_
    · -- cut r6
      refine w_region ?_
      refine wl_det rfl rfl rfl (op_move rfl) ?_
      refine wl_det rfl rfl rfl (op_gtr rfl rfl) ?_
      refine wl_det rfl rfl rfl (op_move rfl) ?_
      refine wl_gsplit (t := 28) rfl (fun hg28 => ?_) (fun hg28 => ?_)
      · -- 28 is True
        refine wl_unwanted rfl rfl rfl rfl rfl rfl rfl rfl ?_
        refine wl_unwanted rfl rfl rfl rfl rfl rfl rfl rfl ?_
        refine wl_det rfl rfl rfl (op_pick_t rfl rfl) ?_
        refine wl_nil ?_
        refine st_tn ?_
        exact cut_done1 [4] hK rfl (by first | (rw [decide_eq_decide]; omega) | (symm; rw [decide_eq_false_iff_not]; omega) | (symm; rw [decide_eq_true_iff]; omega) | (simp; done) | (simp; omega) | (simp [*]; done) | (simp [*]; omega)) (by rfl) rfl rfl
      · -- 28 is False
        refine wl_wanted_det rfl rfl rfl rfl rfl rfl rfl (op_move rfl) ?_
        refine wl_wanted_det rfl rfl rfl rfl rfl rfl rfl (op_gtr rfl rfl) ?_
        refine wl_det rfl rfl rfl (op_pick_f rfl rfl) ?_
        refine wl_nil ?_
        refine st_tn ?_
        exact cut_done1 [4] hK rfl (by first | (rw [decide_eq_decide]; omega) | (symm; rw [decide_eq_false_iff_not]; omega) | (symm; rw [decide_eq_true_iff]; omega) | (simp; done) | (simp; omega) | (simp [*]; done) | (simp [*]; omega)) (by rfl) rfl rfl
    · -- behind r6
      show W _ _ _ _ _ [(31, _), (0, _), (1, _), (4, _), (6, _), (7, _)] [(4, _)] _
      refine w_cond_d rfl (fun hc31 => ?_) (fun hc31 => ?_)
      · -- c31.t
        refine w_seq ?_
        refine w_region ?_
        refine wl_det rfl rfl rfl (op_build tB24b rfl rfl) ?_
        refine wl_op0 [4] rfl rfl rfl (op_store rfl rfl tZ24b (by rfl) (by rfl) (by exact Nat.le_of_ble_eq_true rfl)) ?_
        rintro _ _ ⟨rfl, rfl⟩
        refine wl_det rfl rfl rfl (op_assign rfl) ?_
        refine wl_nil ?_
        refine st_tn ?_
        refine w_ret ?_
        refine st_tr ?_
        refine st_ret (vs := [_, _]) [] Try.results54 ⟨⟨_, rfl, Ent.mono (Ent.lab (l := 4) rfl (says_cel 0)) (fun _ h => run_load_agg tA24b h (Nat.le_of_ble_eq_true rfl))⟩, ⟨rfl, trivial⟩⟩ rfl ?_
        refine ⟨_, rfl, ?_⟩
        rw [show mkF x y = (0, 0, 20) by unfold mkF; rw [if_neg hc11, hp, hq, if_pos hc31]]; exact ⟨rfl, rfl⟩
      · -- c31.f
        refine w_skip ?_
        refine st_tn ?_
        refine w_seq ?_
        refine w_region ?_
        refine wl_det rfl rfl rfl (op_move rfl) ?_
        refine wl_det rfl rfl rfl (op_convI64 rfl (by rw [Try.underlying124]; rfl) Try.underlying3 (by omega)) ?_
        refine wl_det rfl rfl rfl (op_move rfl) ?_
        refine wl_det rfl rfl rfl (op_convI64 rfl (by rw [Try.underlying124]; rfl) Try.underlying3 (by omega)) ?_
        refine wl_det rfl rfl rfl (op_build tB24b rfl rfl) ?_
        refine wl_op [] rfl rfl rfl rfl (op_alloc (l := 9) tN24b) ?_
        rintro _ _ ⟨b9, rfl, rfl⟩
        refine wl_op0 [9] rfl rfl rfl (op_store rfl rfl tZ24b (by rfl) (by rfl) (by exact Nat.le_of_ble_eq_true rfl)) ?_
        rintro _ _ ⟨rfl, rfl⟩
        refine wl_nil ?_
        refine st_tn ?_
        refine w_seq ?_
        refine w_seq ?_
        refine w_region ?_
        refine wl_det rfl rfl rfl (op_move rfl) ?_
        refine wl_det rfl rfl rfl (op_lss rfl rfl) ?_
        refine wl_det rfl rfl rfl (op_move rfl) ?_
        refine wl_det rfl rfl rfl (op_lss rfl rfl) ?_
        refine wl_det rfl rfl rfl (op_neB rfl rfl Try.underlying4) ?_
        refine wl_nil ?_
        refine st_tn ?_
        refine w_cond rfl (fun hc42 => ?_) (fun hc42 => ?_)
        · -- c42.t
          refine w_region ?_
          refine wl_det rfl rfl rfl (op_fieldAddr (off := 0) rfl tF24_0b) ?_
          refine wl_det rfl rfl rfl (op_load1 rfl tO3b (Ent.lab (l := 9) rfl (says_cel 0))) ?_
          refine wl_det rfl rfl rfl (op_neg rfl (by omega)) ?_
          refine wl_det rfl rfl rfl (op_fieldAddr (off := 0) rfl tF24_0b) ?_
          refine wl_op0 [9] rfl rfl rfl (op_store rfl rfl tZ3b (by rfl) (by rfl) (by exact Nat.le_of_ble_eq_true rfl)) ?_
          rintro _ _ ⟨rfl, rfl⟩
          refine wl_nil ?_
          refine st_tn ?_
          refine w_seq ?_
          refine w_region ?_
          refine wl_det rfl rfl rfl (op_loadA rfl tA24b (Ent.lab (l := 9) rfl (says_cel 0)) (Nat.le_of_ble_eq_true rfl)) ?_
          refine wl_op0 [4] rfl rfl rfl (op_store rfl rfl tZ24b (by rfl) (by rfl) (by exact Nat.le_of_ble_eq_true rfl)) ?_
          rintro _ _ ⟨rfl, rfl⟩
          refine wl_det rfl rfl rfl (op_assign rfl) ?_
          refine wl_nil ?_
          refine st_tn ?_
          refine w_ret ?_
          refine st_ret (vs := [_, _]) [] Try.results54 ⟨⟨_, rfl, Ent.mono (Ent.lab (l := 4) rfl (says_cel 0)) (fun _ h => run_load_agg tA24b h (Nat.le_of_ble_eq_true rfl))⟩, ⟨rfl, trivial⟩⟩ rfl ?_
          refine ⟨_, rfl, ?_⟩
          refine ⟨?_, rfl⟩
          unfold mkF; rw [if_neg hc11, hp, hq, if_neg hc31, hc42]; rfl
        · -- c42.f
          refine w_skip ?_
          refine st_tn ?_
          refine w_seq ?_
          refine w_region ?_
          refine wl_det rfl rfl rfl (op_loadA rfl tA24b (Ent.lab (l := 9) rfl (says_cel 0)) (Nat.le_of_ble_eq_true rfl)) ?_
          refine wl_op0 [4] rfl rfl rfl (op_store rfl rfl tZ24b (by rfl) (by rfl) (by exact Nat.le_of_ble_eq_true rfl)) ?_
          rintro _ _ ⟨rfl, rfl⟩
          refine wl_det rfl rfl rfl (op_assign rfl) ?_
          refine wl_nil ?_
          refine st_tn ?_
          refine w_ret ?_
          refine st_ret (vs := [_, _]) [] Try.results54 ⟨⟨_, rfl, Ent.mono (Ent.lab (l := 4) rfl (says_cel 0)) (fun _ h => run_load_agg tA24b h (Nat.le_of_ble_eq_true rfl))⟩, ⟨rfl, trivial⟩⟩ rfl ?_
          refine ⟨_, rfl, ?_⟩
          refine ⟨?_, rfl⟩
          unfold mkF; rw [if_neg hc11, hp, hq, if_neg hc31, hc42]; rfl

end Go.Proofs.Ytbgddblfalahfaa
