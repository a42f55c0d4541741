/- Contracts of the small functions of the package bitmap. Conditions: none. -/
import Derived.Test.YtkknlfhncheflaaB1
import Derived.Test.YtkknlfhncheflaaM0
namespace Go.Proofs.Ytkknlfhncheflaa
open Go Go.SL Go.RowKit Go.BitM
set_option linter.unusedVariables false
set_option linter.unusedSimpArgs false
theorem tA58b : aggB Try.prog 58 2 = true := by kernel_rfl
theorem tF26_0b : fieldB Try.prog 26 0 0 = true := by kernel_rfl
theorem tF58_0b : fieldB Try.prog 58 0 0 = true := by kernel_rfl
theorem tF58_1b : fieldB Try.prog 58 1 1 = true := by kernel_rfl
theorem tL24_1b : zerosB Try.prog 24 58 2 1 = some [Value.int .i64 0, Value.int .i64 0] := by kernel_rfl
theorem tMixb : Try.prog.follows .mixedOrders = true := by kernel_rfl
theorem tO24b : oneB Try.prog 24 = true := by kernel_rfl
theorem tO3b : oneB Try.prog 3 = true := by kernel_rfl
theorem tP24b : appB Try.prog 24 58 2 16 = true := by kernel_rfl
theorem tS24b : sliceB Try.prog 24 58 2 = true := by kernel_rfl
theorem tZ24b : (Try.prog.info? 24).map (·.size) = some 1 := by kernel_rfl

def encRun (r : Run) : List Value := [.int .i64 r.1, .int .i64 r.2]
theorem enc1Run : Enc1 encRun 2 := ⟨fun _ => rfl, fun a u h => by simp [encRun] at h; rcases h with rfl | rfl <;> rfl⟩
/-- A set's value, of these runs. -/
abbrev bm (a : Option Addr) (m c : Nat) : Value := .agg #[.slice a m c]
theorem eq58 (a b c d : Int) (w : World) : (Op.equal 58 (.agg #[.int .i64 a, .int .i64 b]) (.agg #[.int .i64 c, .int .i64 d])).run Try.prog w = .ok (decide ((a, b) = (c, d))) w := by
  have hs : Try.prog.stoodInHeld 58 = false := by kernel_rfl
  have hf : Try.prog.fieldsOf 58 = #[{ name := "First", type := 3, offset := 0, embedded := false, tag := "", pkgPath := "", byteOffset := 0 }, { name := "Last", type := 3, offset := 1, embedded := false, tag := "", pkgPath := "", byteOffset := 8 }] := by kernel_rfl
  have ha : ∀ w, (isAgg 3).run Try.prog w = .ok false w := fun w => by unfold isAgg; rw [Sem.run_bind, run_underlying Try.underlying3 w]; rfl
  show (Op.equalIn (9999 + 1) 58 _ _).run Try.prog w = _
  rw [run_equalIn_agg w 9999 58 _ _ (by kernel_rfl) hs, hf]
  simp only [Op.eqFields, List.toList_toArray]
  simp [part, Sem.run_bind, ha, run_equalIn_int w 9998 3 .i64 .i64 _ _ Try.underlying3, Op.eqFields]
  by_cases h1 : a = c <;> by_cases h2 : b = d <;> simp [h1, h2, part, Sem.run_bind, ha, run_equalIn_int w 9998 3 .i64 .i64 _ _ Try.underlying3, Op.eqFields]
set_option maxHeartbeats 400000 in
set_option maxRecDepth 100000 in
theorem isRow_any {σ : World} {F : List Res} (x : Int) :
    FnT Try.prog σ F 49 [.int .i64 x] [] (fun u ρ => u = .bool (decide (0 ≤ x ∧ x < 1048576)) ∧ ρ = []) := by
  refine fn_of 9 Try.func49 rfl Try.ntmps49 rfl ?_
  refine w_seq ?_
  refine w_region ?_
  refine wl_det rfl rfl rfl (op_assign rfl) ?_
  refine wl_nil ?_
  refine st_tn ?_
  refine w_seq ?_
  refine w_region ?_
  refine wl_det rfl rfl rfl (op_move rfl) ?_
  refine wl_det rfl rfl rfl (op_geq rfl rfl) ?_
  refine wl_det rfl rfl rfl (op_move rfl) ?_
  refine wl_gsplit (t := 5) rfl (fun hg5 => ?_) (fun hg5 => ?_)
  · -- 5 is True
    refine wl_wanted_det rfl rfl rfl rfl rfl rfl rfl (op_move rfl) ?_
    refine wl_wanted_det rfl rfl rfl rfl rfl rfl rfl (op_lss rfl rfl) ?_
    refine wl_det rfl rfl rfl (op_pick_t rfl rfl) ?_
    refine wl_det rfl rfl rfl (op_assign rfl) ?_
    refine wl_nil ?_
    refine st_tn ?_
    refine w_ret ?_
    refine st_ret (vs := [_]) [] Try.results49 ⟨rfl, trivial⟩ rfl ?_
    refine ⟨_, rfl, ?_⟩
    refine ⟨?_, rfl⟩; simp [retv, *]
  · -- 5 is False
    refine wl_unwanted rfl rfl rfl rfl rfl rfl rfl rfl ?_
    refine wl_unwanted rfl rfl rfl rfl rfl rfl rfl rfl ?_
    refine wl_det rfl rfl rfl (op_pick_f rfl rfl) ?_
    refine wl_det rfl rfl rfl (op_assign rfl) ?_
    refine wl_nil ?_
    refine st_tn ?_
    refine w_ret ?_
    refine st_ret (vs := [_]) [] Try.results49 ⟨rfl, trivial⟩ rfl ?_
    refine ⟨_, rfl, ?_⟩
    refine ⟨?_, rfl⟩; simp [retv, *]

-- CALL sleuth/bitmap.isRow isRow_any _
set_option maxHeartbeats 400000 in
set_option maxRecDepth 100000 in
theorem push0 {σ : World} {F : List Res} {a : Option Addr} {c b : Nat} {rl : List Run} {x : Run} (hl : rl.length ≤ 1099511627776) (hb : ∀ r ∈ rl, -1099511627776 ≤ r.2 ∧ r.2 ≤ 1099511627776) :
    FnT Try.prog σ F 52 [.pointer (some ⟨b, 0, none⟩), .agg #[.int .i64 x.1, .int .i64 x.2]] [(100, cel b [.slice a rl.length c] 26), (101, slW 58 encRun 2 (.slice a rl.length c) rl)]
      (fun u ρ => ∃ a' c', u = .tuple #[] ∧ ρ = [(100, cel b [.slice a' (push rl x).length c'] 26), (101, slW 58 encRun 2 (.slice a' (push rl x).length c') (push rl x))]) := by
  refine fn_of 55 Try.func52 rfl Try.ntmps52 rfl ?_
  refine w_seq ?_
  refine w_region ?_
  refine wl_op [] rfl rfl rfl rfl (op_box (T := 58) (l := 3) rfl) ?_
  rintro _ _ ⟨b3, rfl, rfl⟩
  refine wl_nil ?_
  refine st_tn ?_
  refine w_seq ?_
  refine w_region ?_
  refine wl_det rfl rfl rfl (op_move rfl) ?_
  refine wl_det rfl rfl rfl (op_nilCheck rfl) ?_
  refine wl_det rfl rfl rfl (op_fieldAddr (off := 0) rfl tF26_0b) ?_
  refine wl_det rfl rfl rfl (op_load1 rfl tO24b (Ent.lab (l := 100) rfl (says_cel 0))) ?_
  refine wl_det rfl rfl rfl (op_lenT rfl tS24b (Sl.ent (Sl.lab 101 rfl (by unfold maxLen; omega)))) ?_
  refine wl_det rfl rfl rfl (op_sub' rfl rfl (by omega)) ?_
  refine wl_det rfl rfl rfl (op_assign rfl) ?_
  refine wl_nil ?_
  refine st_tn ?_
  refine w_seq ?_
  refine w_seq ?_
  by_cases hq : (0 : Int) ≤ (rl.length : Int) - 1
  · -- hq True
    obtain ⟨r, hr⟩ := getE (l := rl) (i := ((rl.length : Int) - 1).toNat) (by omega)
    have hbr := hb r (List.mem_of_getElem? hr)
    refine w_draw (D := [⟨11, [], [], [], _, false, [], []⟩, ⟨12, [0], [], [], _, false, [], []⟩, ⟨13, [1], [], [], _, false, [], []⟩, ⟨14, [], [], [], _, false, [], []⟩, ⟨15, [3], [], [], _, false, [], []⟩, ⟨16, [], [], [], _, false, [], []⟩, ⟨17, [5], [], [], _, false, [], []⟩, ⟨18, [6], [], [], _, false, [], []⟩, ⟨19, [7], [], [], _, false, [], []⟩, ⟨20, [], [], [], _, false, [], []⟩, ⟨21, [8, 9], [], [], _, false, [], []⟩, ⟨22, [10], [], [], _, false, [], []⟩, ⟨23, [11], [], [], _, false, [], []⟩, ⟨24, [12], [], [], _, false, [], []⟩, ⟨25, [4, 13], [], [], _, false, [], []⟩, ⟨26, [2, 14], [], [], _, false, [], []⟩]) [] [4, 3, 0] [⟨11, [], [], false, [], []⟩, ⟨12, [0], [], false, [], []⟩, ⟨13, [1], [], false, [], []⟩, ⟨14, [], [], false, [], []⟩, ⟨15, [3], [], false, [], []⟩, ⟨16, [], [], false, [], []⟩, ⟨17, [5], [], false, [], []⟩, ⟨18, [6], [], false, [], []⟩, ⟨19, [7], [], false, [], []⟩, ⟨20, [], [], false, [], []⟩, ⟨21, [8, 9], [], false, [], []⟩, ⟨22, [10], [], false, [], []⟩, ⟨23, [11], [], false, [], []⟩, ⟨24, [12], [], false, [], []⟩, ⟨25, [4, 13], [], false, [], []⟩, ⟨26, [2, 14], [], false, [], []⟩] tMixb (by rfl) (by kernel_rfl) (by rfl) (by rfl)
        ⟨.plain rfl (by intro X; exact op_move rfl),
        ⟨.plain rfl (by intro X; rintro _ _ ⟨rfl, rfl⟩; exact op_geq rfl rfl),
        ⟨.plain rfl (by intro X; rintro _ _ ⟨rfl, rfl⟩; exact op_move rfl),
        ⟨.wanted rfl rfl rfl (by rintro _ _ ⟨rfl, rfl⟩; first | rfl | (exact congrArg Value.bool (decide_eq_true (by omega))) | (exact congrArg Value.bool (decide_eq_false (by omega))) | (simp; done) | (simp; omega) | (simp [*]; done)) (by intro X; exact op_fieldAddr (off := 0) rfl tF58_0b),
        ⟨.wanted rfl rfl rfl (by rintro _ _ ⟨rfl, rfl⟩; first | rfl | (exact congrArg Value.bool (decide_eq_true (by omega))) | (exact congrArg Value.bool (decide_eq_false (by omega))) | (simp; done) | (simp; omega) | (simp [*]; done)) (by intro X; rintro _ _ ⟨rfl, rfl⟩; exact op_load1 rfl tO3b (Ent.lab (l := 3) rfl (says_cel 0))),
        ⟨.wanted rfl rfl rfl (by rintro _ _ ⟨rfl, rfl⟩; first | rfl | (exact congrArg Value.bool (decide_eq_true (by omega))) | (exact congrArg Value.bool (decide_eq_false (by omega))) | (simp; done) | (simp; omega) | (simp [*]; done)) (by intro X; exact op_move rfl),
        ⟨.wanted rfl rfl rfl (by rintro _ _ ⟨rfl, rfl⟩; first | rfl | (exact congrArg Value.bool (decide_eq_true (by omega))) | (exact congrArg Value.bool (decide_eq_false (by omega))) | (simp; done) | (simp; omega) | (simp [*]; done)) (by intro X; rintro _ _ ⟨rfl, rfl⟩; exact op_nilCheck rfl),
        ⟨.wanted rfl rfl rfl (by rintro _ _ ⟨rfl, rfl⟩; first | rfl | (exact congrArg Value.bool (decide_eq_true (by omega))) | (exact congrArg Value.bool (decide_eq_false (by omega))) | (simp; done) | (simp; omega) | (simp [*]; done)) (by intro X; rintro _ _ ⟨rfl, rfl⟩; exact op_fieldAddr (off := 0) rfl tF26_0b),
        ⟨.wanted rfl rfl rfl (by rintro _ _ ⟨rfl, rfl⟩; first | rfl | (exact congrArg Value.bool (decide_eq_true (by omega))) | (exact congrArg Value.bool (decide_eq_false (by omega))) | (simp; done) | (simp; omega) | (simp [*]; done)) (by intro X; rintro _ _ ⟨rfl, rfl⟩; exact op_load1 rfl tO24b (Ent.lab (l := 100) rfl (says_cel 0))),
        ⟨.wanted rfl rfl rfl (by rintro _ _ ⟨rfl, rfl⟩; first | rfl | (exact congrArg Value.bool (decide_eq_true (by omega))) | (exact congrArg Value.bool (decide_eq_false (by omega))) | (simp; done) | (simp; omega) | (simp [*]; done)) (by intro X; exact op_move rfl),
        ⟨.wanted rfl rfl rfl (by rintro _ _ ⟨rfl, rfl⟩; first | rfl | (exact congrArg Value.bool (decide_eq_true (by omega))) | (exact congrArg Value.bool (decide_eq_false (by omega))) | (simp; done) | (simp; omega) | (simp [*]; done)) (by intro X; rintro _ _ ⟨rfl, rfl⟩ _ _ ⟨rfl, rfl⟩; exact op_idxZ rfl rfl tS24b (Sl.ent (Sl.lab 101 rfl (by unfold maxLen; omega))) (by omega) (by omega)),
        ⟨.wanted rfl rfl rfl (by rintro _ _ ⟨rfl, rfl⟩; first | rfl | (exact congrArg Value.bool (decide_eq_true (by omega))) | (exact congrArg Value.bool (decide_eq_false (by omega))) | (simp; done) | (simp; omega) | (simp [*]; done)) (by intro X; rintro _ _ ⟨rfl, rfl⟩; exact op_fieldAddr (off := 1) rfl tF58_1b),
        ⟨.wanted rfl rfl rfl (by rintro _ _ ⟨rfl, rfl⟩; first | rfl | (exact congrArg Value.bool (decide_eq_true (by omega))) | (exact congrArg Value.bool (decide_eq_false (by omega))) | (simp; done) | (simp; omega) | (simp [*]; done)) (by intro X; rintro _ _ ⟨rfl, rfl⟩; exact op_ldxf rfl tO3b (Sl.lab 101 rfl (by unfold maxLen; omega)) (by assumption) (by rfl)),
        ⟨.wanted rfl rfl rfl (by rintro _ _ ⟨rfl, rfl⟩; first | rfl | (exact congrArg Value.bool (decide_eq_true (by omega))) | (exact congrArg Value.bool (decide_eq_false (by omega))) | (simp; done) | (simp; omega) | (simp [*]; done)) (by intro X; rintro _ _ ⟨rfl, rfl⟩; exact op_add' rfl rfl (by omega)),
        ⟨.wanted rfl rfl rfl (by rintro _ _ ⟨rfl, rfl⟩; first | rfl | (exact congrArg Value.bool (decide_eq_true (by omega))) | (exact congrArg Value.bool (decide_eq_false (by omega))) | (simp; done) | (simp; omega) | (simp [*]; done)) (by intro X; rintro _ _ ⟨rfl, rfl⟩ _ _ ⟨rfl, rfl⟩; exact op_leq rfl rfl),
        ⟨.plain rfl (by intro X; rintro _ _ ⟨rfl, rfl⟩ _ _ ⟨rfl, rfl⟩; exact op_pick_t (by first | rfl | (show some (Value.bool (decide _)) = _; rw [decide_eq_true (by omega)]) | (show some (Value.bool (decide _)) = _; rw [decide_eq_false (by omega)]) | (simp [ev, lk]; done) | (simp [ev, lk]; omega) | (simp [ev, lk, *]; done)) rfl),
        trivial⟩⟩⟩⟩⟩⟩⟩⟩⟩⟩⟩⟩⟩⟩⟩⟩ ?_
    rintro _ _ ⟨rfl, rfl⟩ _ _ ⟨rfl, rfl⟩ _ _ ⟨rfl, rfl⟩ _ _ ⟨rfl, rfl⟩ _ _ ⟨rfl, rfl⟩ _ _ ⟨rfl, rfl⟩ _ _ ⟨rfl, rfl⟩ _ _ ⟨rfl, rfl⟩ _ _ ⟨rfl, rfl⟩ _ _ ⟨rfl, rfl⟩ _ _ ⟨rfl, rfl⟩ _ _ ⟨rfl, rfl⟩ _ _ ⟨rfl, rfl⟩ _ _ ⟨rfl, rfl⟩ _ _ ⟨rfl, rfl⟩ _ _ ⟨rfl, rfl⟩
    refine wl_norm (e' := [(0, _), (3, _), (4, _), (26, _)]) (.cons rfl (.cons rfl (.cons rfl (.cons rfl (.nil _))))) (by dsimp only [cond_false, cond_true, List.nil_append, List.cons_append]) ?_
    refine wl_nil ?_
    refine st_tn ?_
    refine w_cond_d rfl (fun hc26 => ?_) (fun hc26 => ?_)
    · -- c26.t
      have hne : rl ≠ [] := fun e => by subst e; simp at hr
      have hps : push rl x = rl.set ((rl.length : Int) - 1).toNat (r.1, max r.2 x.2) := by
        obtain ⟨l, q, rfl⟩ := (List.eq_nil_or_concat rl).resolve_left hne
        rw [List.concat_eq_append] at *
        have hi : (((l ++ [q]).length : Int) - 1).toNat = l.length := by simp
        rw [hi] at hr ⊢
        simp at hr; subst hr
        rw [push_snoc, if_pos hc26]; simp
      have hpl : (rl.set ((rl.length : Int) - 1).toNat (r.1, max r.2 x.2)).length = rl.length := by simp
      refine w_seq ?_
      refine w_draw (D := [⟨27, [], [], [], _, false, [], []⟩, ⟨28, [0], [], [], _, false, [], []⟩, ⟨29, [1], [], [], _, false, [], []⟩, ⟨30, [2], [], [], _, false, [], []⟩, ⟨31, [], [], [], _, false, [], []⟩, ⟨32, [], [], [], _, false, [], []⟩, ⟨33, [5], [], [], _, false, [], []⟩, ⟨34, [6], [], [], _, false, [], []⟩, ⟨35, [7], [], [], _, false, [], []⟩, ⟨36, [], [], [], _, false, [], []⟩, ⟨37, [8, 9], [], [], _, false, [], []⟩, ⟨38, [10], [], [], _, false, [], []⟩, ⟨39, [11], [], [], _, false, [], []⟩, ⟨40, [], [], [], _, false, [], []⟩, ⟨41, [13], [], [], _, false, [], []⟩, ⟨42, [12, 14], [], [], _, false, [], []⟩]) [] [0, 4, 3] [⟨27, [], [], false, [], []⟩, ⟨28, [0], [], false, [], []⟩, ⟨29, [1], [], false, [], []⟩, ⟨30, [2], [], false, [], []⟩, ⟨31, [], [], false, [], []⟩, ⟨32, [], [], false, [], []⟩, ⟨33, [5], [], false, [], []⟩, ⟨34, [6], [], false, [], []⟩, ⟨35, [7], [], false, [], []⟩, ⟨36, [], [], false, [], []⟩, ⟨37, [8, 9], [], false, [], []⟩, ⟨38, [10], [], false, [], []⟩, ⟨39, [11], [], false, [], []⟩, ⟨40, [], [], false, [], []⟩, ⟨41, [13], [], false, [], []⟩, ⟨42, [12, 14], [], false, [], []⟩] tMixb (by rfl) (by kernel_rfl) (by rfl) (by rfl)
          ⟨.plain rfl (by intro X; exact op_move rfl),
          ⟨.plain rfl (by intro X; rintro _ _ ⟨rfl, rfl⟩; exact op_nilCheck rfl),
          ⟨.plain rfl (by intro X; rintro _ _ ⟨rfl, rfl⟩; exact op_fieldAddr (off := 0) rfl tF26_0b),
          ⟨.plain rfl (by intro X; rintro _ _ ⟨rfl, rfl⟩; exact op_load1 rfl tO24b (Ent.lab (l := 100) rfl (says_cel 0))),
          ⟨.plain rfl (by intro X; exact op_move rfl),
          ⟨.plain rfl (by intro X; exact op_move rfl),
          ⟨.plain rfl (by intro X; rintro _ _ ⟨rfl, rfl⟩; exact op_nilCheck rfl),
          ⟨.plain rfl (by intro X; rintro _ _ ⟨rfl, rfl⟩; exact op_fieldAddr (off := 0) rfl tF26_0b),
          ⟨.plain rfl (by intro X; rintro _ _ ⟨rfl, rfl⟩; exact op_load1 rfl tO24b (Ent.lab (l := 100) rfl (says_cel 0))),
          ⟨.plain rfl (by intro X; exact op_move rfl),
          ⟨.plain rfl (by intro X; rintro _ _ ⟨rfl, rfl⟩ _ _ ⟨rfl, rfl⟩; exact op_idxZ rfl rfl tS24b (Sl.ent (Sl.lab 101 rfl (by unfold maxLen; omega))) (by omega) (by omega)),
          ⟨.plain rfl (by intro X; rintro _ _ ⟨rfl, rfl⟩; exact op_fieldAddr (off := 1) rfl tF58_1b),
          ⟨.plain rfl (by intro X; rintro _ _ ⟨rfl, rfl⟩; exact op_ldxf rfl tO3b (Sl.lab 101 rfl (by unfold maxLen; omega)) (by assumption) (by rfl)),
          ⟨.plain rfl (by intro X; exact op_fieldAddr (off := 1) rfl tF58_1b),
          ⟨.plain rfl (by intro X; rintro _ _ ⟨rfl, rfl⟩; exact op_load1 rfl tO3b (Ent.lab (l := 3) rfl (says_cel 1))),
          ⟨.plain rfl (by intro X; rintro _ _ ⟨rfl, rfl⟩ _ _ ⟨rfl, rfl⟩; exact op_max rfl rfl),
          trivial⟩⟩⟩⟩⟩⟩⟩⟩⟩⟩⟩⟩⟩⟩⟩⟩ ?_
      rintro _ _ ⟨rfl, rfl⟩ _ _ ⟨rfl, rfl⟩ _ _ ⟨rfl, rfl⟩ _ _ ⟨rfl, rfl⟩ _ _ ⟨rfl, rfl⟩ _ _ ⟨rfl, rfl⟩ _ _ ⟨rfl, rfl⟩ _ _ ⟨rfl, rfl⟩ _ _ ⟨rfl, rfl⟩ _ _ ⟨rfl, rfl⟩ _ _ ⟨rfl, rfl⟩ _ _ ⟨rfl, rfl⟩ _ _ ⟨rfl, rfl⟩ _ _ ⟨rfl, rfl⟩ _ _ ⟨rfl, rfl⟩ _ _ ⟨rfl, rfl⟩
      refine wl_norm (e' := [(30, _), (31, _), (42, _)]) (.cons rfl (.cons rfl (.cons rfl (.nil _)))) (by dsimp only [cond_false, cond_true, List.nil_append, List.cons_append]) ?_
      refine wl_det rfl rfl rfl (op_idxZ rfl rfl tS24b (Sl.ent (Sl.lab 101 rfl (by unfold maxLen; omega))) (by omega) (by omega)) ?_
      refine wl_det rfl rfl rfl (op_fieldAddr (off := 1) rfl tF58_1b) ?_
      refine wl_op0 [101] rfl rfl rfl (op_storeX (lab := 101) (j := 1) (b' := (r.1, max r.2 x.2)) rfl rfl tO3b rfl rfl rfl hr (by decide) rfl) ?_
      rintro _ _ ⟨rfl, rfl⟩
      refine wl_nil ?_
      refine st_tn ?_
      refine w_ret ?_
      refine st_tr ?_
      refine st_ret (vs := []) [100, 101] Try.results52 trivial rfl ?_
      refine ⟨[(100, _), (101, _)], rfl, ?_⟩
      refine ⟨a, c, rfl, ?_⟩; rw [hps, hpl]
    · -- c26.f
      have hpush : push rl x = rl ++ [x] := by
        have hne : rl ≠ [] := fun e => by subst e; simp at hr
        obtain ⟨l, q, rfl⟩ := (List.eq_nil_or_concat rl).resolve_left hne
        rw [List.concat_eq_append] at *
        have hi : (((l ++ [q]).length : Int) - 1).toNat = l.length := by simp
        rw [hi] at hr
        simp at hr; subst hr
        rw [push_snoc, if_neg hc26]
      refine w_skip ?_
      refine st_tn ?_
      refine w_draw (D := [⟨45, [], [], [], _, false, [], []⟩, ⟨46, [], [], [], _, false, [], []⟩, ⟨47, [1], [], [], _, false, [], []⟩, ⟨48, [2], [], [], _, false, [], []⟩, ⟨49, [3], [], [], _, false, [], []⟩, ⟨50, [], [], [], _, false, [], []⟩, ⟨51, [5], [], [], _, false, [], []⟩, ⟨52, [4, 6], [], [(101, _)], _, false, [], []⟩]) [101] [0, 3] [⟨45, [], [], false, [], []⟩, ⟨46, [], [], false, [], []⟩, ⟨47, [1], [], false, [], []⟩, ⟨48, [2], [], false, [], []⟩, ⟨49, [3], [], false, [], []⟩, ⟨50, [], [], false, [], []⟩, ⟨51, [5], [], false, [], []⟩, ⟨52, [4, 6], [], false, [], []⟩] tMixb (by rfl) (by kernel_rfl) (by rfl) (by rfl)
          ⟨.plain rfl (by intro X; exact op_move rfl),
          ⟨.plain rfl (by intro X; exact op_move rfl),
          ⟨.plain rfl (by intro X; rintro _ _ ⟨rfl, rfl⟩; exact op_nilCheck rfl),
          ⟨.plain rfl (by intro X; rintro _ _ ⟨rfl, rfl⟩; exact op_fieldAddr (off := 0) rfl tF26_0b),
          ⟨.plain rfl (by intro X; rintro _ _ ⟨rfl, rfl⟩; exact op_load1 rfl tO24b (Ent.lab (l := 100) rfl (says_cel 0))),
          ⟨.plain rfl (by intro X; exact op_loadA rfl tA58b (Ent.lab (l := 3) rfl (says_cel 0)) (Nat.le_of_ble_eq_true rfl)),
          ⟨.plain rfl (by intro X; rintro _ _ ⟨rfl, rfl⟩; exact op_buildSlice (enc := encRun) (l := [_]) (lab := 51) tL24_1b rfl rfl (fun _ => rfl) rfl),
          ⟨.plain rfl (by intro X; rintro _ _ ⟨rfl, rfl⟩ _ _ ⟨a51, c51, rfl, rfl⟩; exact op_append (lab := 101) (lab' := 52) rfl rfl tP24b enc1Run (Sl.lab 51 rfl (by simp [maxLen])) (by first | omega | (simp; done) | (simp; omega) | (simp [*]; omega)) (by first | omega | (simp; done) | (simp; omega) | (simp [*]; omega))),
          trivial⟩⟩⟩⟩⟩⟩⟩⟩ ?_
      rintro _ _ ⟨rfl, rfl⟩ _ _ ⟨rfl, rfl⟩ _ _ ⟨rfl, rfl⟩ _ _ ⟨rfl, rfl⟩ _ _ ⟨rfl, rfl⟩ _ _ ⟨rfl, rfl⟩ _ _ ⟨a51, c51, rfl, rfl⟩ _ _ ⟨a52, c52, rfl, rfl⟩
      refine wl_norm (e' := [(45, _), (52, _)]) (.cons rfl (.cons rfl (.nil _))) (by dsimp only [cond_false, cond_true, List.nil_append, List.cons_append]) ?_
      refine wl_det rfl rfl rfl (op_nilCheck rfl) ?_
      refine wl_det rfl rfl rfl (op_fieldAddr (off := 0) rfl tF26_0b) ?_
      refine wl_op0 [100] rfl rfl rfl (op_store rfl rfl tZ24b (by rfl) (by rfl) (by exact Nat.le_of_ble_eq_true rfl)) ?_
      rintro _ _ ⟨rfl, rfl⟩
      refine wl_nil ?_
      refine st_end (vs := []) [100, 52] Try.results52 trivial rfl ?_
      refine ⟨[(100, _), (101, _)], rfl, ?_⟩
      refine ⟨a52, c52, rfl, ?_⟩; rw [hpush]; rfl
  · -- hq False
    have hpush : push rl x = rl ++ [x] := by
      have : rl = [] := List.eq_nil_of_length_eq_zero (by omega)
      subst this; rfl
    refine w_draw (D := [⟨11, [], [], [], _, false, [], []⟩, ⟨12, [0], [], [], _, false, [], []⟩, ⟨13, [1], [], [], _, false, [], []⟩, ⟨14, [], [], [], Det undef, false, [], []⟩, ⟨15, [], [], [], Det undef, false, [], []⟩, ⟨16, [], [], [], Det undef, false, [], []⟩, ⟨17, [], [], [], Det undef, false, [], []⟩, ⟨18, [], [], [], Det undef, false, [], []⟩, ⟨19, [], [], [], Det undef, false, [], []⟩, ⟨20, [], [], [], Det undef, false, [], []⟩, ⟨21, [], [], [], Det undef, false, [], []⟩, ⟨22, [], [], [], Det undef, false, [], []⟩, ⟨23, [], [], [], Det undef, false, [], []⟩, ⟨24, [], [], [], Det undef, false, [], []⟩, ⟨25, [], [], [], Det undef, false, [], []⟩, ⟨26, [2, 14], [], [], _, false, [], []⟩]) [] [4, 3, 0] [⟨11, [], [], false, [], []⟩, ⟨12, [0], [], false, [], []⟩, ⟨13, [1], [], false, [], []⟩, ⟨14, [], [], false, [], []⟩, ⟨15, [], [], false, [], []⟩, ⟨16, [], [], false, [], []⟩, ⟨17, [], [], false, [], []⟩, ⟨18, [], [], false, [], []⟩, ⟨19, [], [], false, [], []⟩, ⟨20, [], [], false, [], []⟩, ⟨21, [], [], false, [], []⟩, ⟨22, [], [], false, [], []⟩, ⟨23, [], [], false, [], []⟩, ⟨24, [], [], false, [], []⟩, ⟨25, [], [], false, [], []⟩, ⟨26, [2, 14], [], false, [], []⟩] tMixb (by rfl) (by kernel_rfl) (by rfl) (by rfl)
        ⟨.plain rfl (by intro X; exact op_move rfl),
        ⟨.plain rfl (by intro X; rintro _ _ ⟨rfl, rfl⟩; exact op_geq rfl rfl),
        ⟨.plain rfl (by intro X; rintro _ _ ⟨rfl, rfl⟩; exact op_move rfl),
        ⟨.unwanted rfl rfl rfl (by rintro _ _ ⟨rfl, rfl⟩; exact congrArg (offB true) (by first | rfl | (exact congrArg Value.bool (decide_eq_true (by omega))) | (exact congrArg Value.bool (decide_eq_false (by omega))) | (simp; done) | (simp; omega) | (simp [*]; done) : _ = Value.bool false)) ⟨rfl, rfl⟩ rfl rfl,
        ⟨.unwanted rfl rfl rfl (by rintro _ _ ⟨rfl, rfl⟩; exact congrArg (offB true) (by first | rfl | (exact congrArg Value.bool (decide_eq_true (by omega))) | (exact congrArg Value.bool (decide_eq_false (by omega))) | (simp; done) | (simp; omega) | (simp [*]; done) : _ = Value.bool false)) ⟨rfl, rfl⟩ rfl rfl,
        ⟨.unwanted rfl rfl rfl (by rintro _ _ ⟨rfl, rfl⟩; exact congrArg (offB true) (by first | rfl | (exact congrArg Value.bool (decide_eq_true (by omega))) | (exact congrArg Value.bool (decide_eq_false (by omega))) | (simp; done) | (simp; omega) | (simp [*]; done) : _ = Value.bool false)) ⟨rfl, rfl⟩ rfl rfl,
        ⟨.unwanted rfl rfl rfl (by rintro _ _ ⟨rfl, rfl⟩; exact congrArg (offB true) (by first | rfl | (exact congrArg Value.bool (decide_eq_true (by omega))) | (exact congrArg Value.bool (decide_eq_false (by omega))) | (simp; done) | (simp; omega) | (simp [*]; done) : _ = Value.bool false)) ⟨rfl, rfl⟩ rfl rfl,
        ⟨.unwanted rfl rfl rfl (by rintro _ _ ⟨rfl, rfl⟩; exact congrArg (offB true) (by first | rfl | (exact congrArg Value.bool (decide_eq_true (by omega))) | (exact congrArg Value.bool (decide_eq_false (by omega))) | (simp; done) | (simp; omega) | (simp [*]; done) : _ = Value.bool false)) ⟨rfl, rfl⟩ rfl rfl,
        ⟨.unwanted rfl rfl rfl (by rintro _ _ ⟨rfl, rfl⟩; exact congrArg (offB true) (by first | rfl | (exact congrArg Value.bool (decide_eq_true (by omega))) | (exact congrArg Value.bool (decide_eq_false (by omega))) | (simp; done) | (simp; omega) | (simp [*]; done) : _ = Value.bool false)) ⟨rfl, rfl⟩ rfl rfl,
        ⟨.unwanted rfl rfl rfl (by rintro _ _ ⟨rfl, rfl⟩; exact congrArg (offB true) (by first | rfl | (exact congrArg Value.bool (decide_eq_true (by omega))) | (exact congrArg Value.bool (decide_eq_false (by omega))) | (simp; done) | (simp; omega) | (simp [*]; done) : _ = Value.bool false)) ⟨rfl, rfl⟩ rfl rfl,
        ⟨.unwanted rfl rfl rfl (by rintro _ _ ⟨rfl, rfl⟩; exact congrArg (offB true) (by first | rfl | (exact congrArg Value.bool (decide_eq_true (by omega))) | (exact congrArg Value.bool (decide_eq_false (by omega))) | (simp; done) | (simp; omega) | (simp [*]; done) : _ = Value.bool false)) ⟨rfl, rfl⟩ rfl rfl,
        ⟨.unwanted rfl rfl rfl (by rintro _ _ ⟨rfl, rfl⟩; exact congrArg (offB true) (by first | rfl | (exact congrArg Value.bool (decide_eq_true (by omega))) | (exact congrArg Value.bool (decide_eq_false (by omega))) | (simp; done) | (simp; omega) | (simp [*]; done) : _ = Value.bool false)) ⟨rfl, rfl⟩ rfl rfl,
        ⟨.unwanted rfl rfl rfl (by rintro _ _ ⟨rfl, rfl⟩; exact congrArg (offB true) (by first | rfl | (exact congrArg Value.bool (decide_eq_true (by omega))) | (exact congrArg Value.bool (decide_eq_false (by omega))) | (simp; done) | (simp; omega) | (simp [*]; done) : _ = Value.bool false)) ⟨rfl, rfl⟩ rfl rfl,
        ⟨.unwanted rfl rfl rfl (by rintro _ _ ⟨rfl, rfl⟩; exact congrArg (offB true) (by first | rfl | (exact congrArg Value.bool (decide_eq_true (by omega))) | (exact congrArg Value.bool (decide_eq_false (by omega))) | (simp; done) | (simp; omega) | (simp [*]; done) : _ = Value.bool false)) ⟨rfl, rfl⟩ rfl rfl,
        ⟨.unwanted rfl rfl rfl (by rintro _ _ ⟨rfl, rfl⟩; exact congrArg (offB true) (by first | rfl | (exact congrArg Value.bool (decide_eq_true (by omega))) | (exact congrArg Value.bool (decide_eq_false (by omega))) | (simp; done) | (simp; omega) | (simp [*]; done) : _ = Value.bool false)) ⟨rfl, rfl⟩ rfl rfl,
        ⟨.plain rfl (by intro X; rintro _ _ ⟨rfl, rfl⟩ _ _ ⟨rfl, rfl⟩; exact op_pick_f (by first | rfl | (show some (Value.bool (decide _)) = _; rw [decide_eq_true (by omega)]) | (show some (Value.bool (decide _)) = _; rw [decide_eq_false (by omega)]) | (simp [ev, lk]; done) | (simp [ev, lk]; omega) | (simp [ev, lk, *]; done)) rfl),
        trivial⟩⟩⟩⟩⟩⟩⟩⟩⟩⟩⟩⟩⟩⟩⟩⟩ ?_
    rintro _ _ ⟨rfl, rfl⟩ _ _ ⟨rfl, rfl⟩ _ _ ⟨rfl, rfl⟩ _ _ ⟨rfl, rfl⟩ _ _ ⟨rfl, rfl⟩ _ _ ⟨rfl, rfl⟩ _ _ ⟨rfl, rfl⟩ _ _ ⟨rfl, rfl⟩ _ _ ⟨rfl, rfl⟩ _ _ ⟨rfl, rfl⟩ _ _ ⟨rfl, rfl⟩ _ _ ⟨rfl, rfl⟩ _ _ ⟨rfl, rfl⟩ _ _ ⟨rfl, rfl⟩ _ _ ⟨rfl, rfl⟩ _ _ ⟨rfl, rfl⟩
    refine wl_norm (e' := [(0, _), (3, _), (4, _), (26, _)]) (.cons rfl (.cons rfl (.cons rfl (.cons rfl (.nil _))))) (by dsimp only [cond_false, cond_true, List.nil_append, List.cons_append]) ?_
    refine wl_nil ?_
    refine st_tn ?_
    refine w_cond_f (rfl) ?_
    refine w_skip ?_
    refine st_tn ?_
    refine w_draw (D := [⟨45, [], [], [], _, false, [], []⟩, ⟨46, [], [], [], _, false, [], []⟩, ⟨47, [1], [], [], _, false, [], []⟩, ⟨48, [2], [], [], _, false, [], []⟩, ⟨49, [3], [], [], _, false, [], []⟩, ⟨50, [], [], [], _, false, [], []⟩, ⟨51, [5], [], [], _, false, [], []⟩, ⟨52, [4, 6], [], [(101, _)], _, false, [], []⟩]) [101] [0, 3] [⟨45, [], [], false, [], []⟩, ⟨46, [], [], false, [], []⟩, ⟨47, [1], [], false, [], []⟩, ⟨48, [2], [], false, [], []⟩, ⟨49, [3], [], false, [], []⟩, ⟨50, [], [], false, [], []⟩, ⟨51, [5], [], false, [], []⟩, ⟨52, [4, 6], [], false, [], []⟩] tMixb (by rfl) (by kernel_rfl) (by rfl) (by rfl)
        ⟨.plain rfl (by intro X; exact op_move rfl),
        ⟨.plain rfl (by intro X; exact op_move rfl),
        ⟨.plain rfl (by intro X; rintro _ _ ⟨rfl, rfl⟩; exact op_nilCheck rfl),
        ⟨.plain rfl (by intro X; rintro _ _ ⟨rfl, rfl⟩; exact op_fieldAddr (off := 0) rfl tF26_0b),
        ⟨.plain rfl (by intro X; rintro _ _ ⟨rfl, rfl⟩; exact op_load1 rfl tO24b (Ent.lab (l := 100) rfl (says_cel 0))),
        ⟨.plain rfl (by intro X; exact op_loadA rfl tA58b (Ent.lab (l := 3) rfl (says_cel 0)) (Nat.le_of_ble_eq_true rfl)),
        ⟨.plain rfl (by intro X; rintro _ _ ⟨rfl, rfl⟩; exact op_buildSlice (enc := encRun) (l := [_]) (lab := 51) tL24_1b rfl rfl (fun _ => rfl) rfl),
        ⟨.plain rfl (by intro X; rintro _ _ ⟨rfl, rfl⟩ _ _ ⟨a51, c51, rfl, rfl⟩; exact op_append (lab := 101) (lab' := 52) rfl rfl tP24b enc1Run (Sl.lab 51 rfl (by simp [maxLen])) (by first | omega | (simp; done) | (simp; omega) | (simp [*]; omega)) (by first | omega | (simp; done) | (simp; omega) | (simp [*]; omega))),
        trivial⟩⟩⟩⟩⟩⟩⟩⟩ ?_
    rintro _ _ ⟨rfl, rfl⟩ _ _ ⟨rfl, rfl⟩ _ _ ⟨rfl, rfl⟩ _ _ ⟨rfl, rfl⟩ _ _ ⟨rfl, rfl⟩ _ _ ⟨rfl, rfl⟩ _ _ ⟨a51, c51, rfl, rfl⟩ _ _ ⟨a52, c52, rfl, rfl⟩
    refine wl_norm (e' := [(45, _), (52, _)]) (.cons rfl (.cons rfl (.nil _))) (by dsimp only [cond_false, cond_true, List.nil_append, List.cons_append]) ?_
    refine wl_det rfl rfl rfl (op_nilCheck rfl) ?_
    refine wl_det rfl rfl rfl (op_fieldAddr (off := 0) rfl tF26_0b) ?_
    refine wl_op0 [100] rfl rfl rfl (op_store rfl rfl tZ24b (by rfl) (by rfl) (by exact Nat.le_of_ble_eq_true rfl)) ?_
    rintro _ _ ⟨rfl, rfl⟩
    refine wl_nil ?_
    refine st_end (vs := []) [100, 52] Try.results52 trivial rfl ?_
    refine ⟨[(100, _), (101, _)], rfl, ?_⟩
    refine ⟨a52, c52, rfl, ?_⟩; rw [hpush]; rfl

end Go.Proofs.Ytkknlfhncheflaa
