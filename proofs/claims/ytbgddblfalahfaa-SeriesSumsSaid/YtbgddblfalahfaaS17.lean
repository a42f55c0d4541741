/- The law SeriesSums (layer 43). Conditions: none. -/
import Derived.Test.YtbgddblfalahfaaS16
namespace Go.Proofs.Ytbgddblfalahfaa
open Go Go.SL Go.RowKit
set_option linter.unusedVariables false
set_option linter.unusedSimpArgs false
theorem tA46q : aggB Try.prog 46 6 = true := by kernel_rfl
theorem tA48q : aggB Try.prog 48 7 = true := by kernel_rfl
theorem tB37q : placesB Try.prog 37 = some ([(0, 1), (1, 1)], [Value.int .i64 0, Value.int .i64 0]) := by kernel_rfl
theorem tB48q : placesB Try.prog 48 = some ([(0, 1), (1, 1), (2, 1), (3, 2), (5, 1), (6, 1)], [Value.string .empty, Value.string .empty, Value.int .i64 0, Value.int .i64 0, Value.int .i64 0, Value.int .i64 0, Value.slice none 0 0]) := by kernel_rfl
theorem tF48_5q : fieldB Try.prog 48 5 6 = true := by kernel_rfl
theorem tL25_1q : zerosB Try.prog 25 3 1 1 = some [Value.int .i64 0] := by kernel_rfl
theorem tL25_2q : zerosB Try.prog 25 3 1 2 = some [Value.int .i64 0, Value.int .i64 0] := by kernel_rfl
theorem tMixq : Try.prog.follows .mixedOrders = true := by kernel_rfl
theorem tN48q : (Try.prog.info? 48).bind (·.zero) = some (Value.agg #[Value.string .empty, Value.string .empty, Value.int .i64 0, Value.int .i64 0, Value.int .i64 0, Value.int .i64 0, Value.slice none 0 0]) := by kernel_rfl
theorem tO25q : oneB Try.prog 25 = true := by kernel_rfl
theorem tS25q : sliceB Try.prog 25 3 1 = true := by kernel_rfl
theorem tZ48q : (Try.prog.info? 48).map (·.size) = some 7 := by kernel_rfl

theorem sumR_len {k : SK} {fr : Int} {l : List Int} {k' : SK} {fr' : Int} {m : List Int} (hl : l.length ≤ 1000) (hm : m.length ≤ 1000) (hd : max (fr + l.length) (fr' + m.length) - min fr fr' ≤ 1024) : (sumR k fr l k' fr' m).vals.length ≤ 1024 := by
  unfold sumR
  split
  · simp [zeroR]
  · split
    · simp [zeroR]
    · split
      · unfold oneR; split
        · simp only; omega
        · split
          · simp only; omega
          · simp [zeroR]
      · exact bothR_len hd
theorem sumV_comm {l : List Int} {fr : Int} {m : List Int} {fr' : Int} : sumV l fr m fr' = sumV m fr' l fr := by
  funext x; unfold sumV; rw [Int.add_comm]
theorem sumR_comm {k : SK} {fr : Int} {l : List Int} {k' : SK} {fr' : Int} {m : List Int} (h : 0 < l.length + m.length) : sumR k fr l k' fr' m = sumR k' fr' m k fr l := by
  unfold sumR
  by_cases hs : sameK k k'
  · have hk := sameK_eq.1 hs
    subst hk
    have hnn : ¬ ¬ sameK k k := fun e => e hs
    rw [if_neg hnn, if_neg hnn]
    by_cases h3 : k.met = 3
    · rw [if_pos h3, if_pos h3]
    · rw [if_neg h3, if_neg h3]
      by_cases h1 : l.length = 0
      · have h2 : m.length ≠ 0 := by omega
        unfold oneR
        simp only [h1, h2, if_true, if_false]
      · by_cases h2 : m.length = 0
        · unfold oneR
          simp only [h1, h2, if_true, if_false]
        · rw [if_neg (oneR_both h1 h2), if_neg (oneR_both h2 h1), sumV_comm, Int.min_comm, Int.max_comm]
  · rw [if_pos hs, if_pos (fun e => hs (by rw [sameK_eq] at e ⊢; exact e.symm))]
theorem sumR_e0 {k : SK} {fr : Int} {l : List Int} {k' : SK} {fr' : Int} {m : List Int} (h : l.length + m.length = 0) : (sumR k fr l k' fr' m).e = (sumR k' fr' m k fr l).e := by
  have h1 : l.length = 0 := by omega
  have h2 : m.length = 0 := by omega
  unfold sumR oneR
  by_cases hs : sameK k k'
  · have hk := sameK_eq.1 hs
    subst hk
    have hnn : ¬ ¬ sameK k k := fun e => e hs
    rw [if_neg hnn, if_neg hnn]
    by_cases h3 : k.met = 3
    · rw [if_pos h3, if_pos h3]
    · rw [if_neg h3, if_neg h3]
      simp [h1, h2]
  · rw [if_pos hs, if_pos (fun e => hs (by rw [sameK_eq] at e ⊢; exact e.symm))]
def kS : SK := ⟨⟨#[115]⟩, .empty, 1, 0, 0⟩
theorem sum_over : (sumR kS 0 [1099511627776, 1] kS 1 [1099511627776]).e = 20 := by decide +kernel
theorem sum_one : (sumR kS 0 [1099511627776, 1] kS (winF 1 [1099511627776] 0 0) (winL 1 [1099511627776] 0 0)).e = 0 := by decide +kernel
theorem win_nil : winL 1 [1099511627776] 0 0 = [] := by decide +kernel
set_option maxHeartbeats 2000000 in
set_option maxRecDepth 100000 in
theorem lawSums_any {σ : World} {F : List Res} {a b : Option Addr} {c d : Nat} {l m : List Int} (x0 x1 x2 x3 x4 y0 y1 y2 y3 y4 : Int) (h : Sl σ F encY 1 (.slice a l.length c) l) (hb : ∀ x ∈ l, 0 ≤ x ∧ x ≤ 255) (h0 : 0 ≤ x0 ∧ x0 ≤ 255) (h1 : 0 ≤ x1 ∧ x1 ≤ 255) (h2 : 0 ≤ x2 ∧ x2 ≤ 255) (h3 : 0 ≤ x3 ∧ x3 ≤ 255) (h4 : 0 ≤ x4 ∧ x4 ≤ 255) (g : Sl σ F encY 1 (.slice b m.length d) m) (gb : ∀ x ∈ m, 0 ≤ x ∧ x ≤ 255) (g0 : 0 ≤ y0 ∧ y0 ≤ 255) (g1 : 0 ≤ y1 ∧ y1 ≤ 255) (g2 : 0 ≤ y2 ∧ y2 ≤ 255) (g3 : 0 ≤ y3 ∧ y3 ≤ 255) (g4 : 0 ≤ y4 ∧ y4 ≤ 255) :
    FnT Try.prog σ F 11 [.agg #[.int .u8 x0, .int .u8 x1, .int .u8 x2, .int .u8 x3, .int .u8 x4, .slice a l.length c], .agg #[.int .u8 y0, .int .u8 y1, .int .u8 y2, .int .u8 y3, .int .u8 y4, .slice b m.length d]] [] (fun u ρ => u = .bool true ∧ ρ = []) := by
  refine fn_of 103 Try.func11 rfl Try.ntmps11 rfl ?_
  have hlt : (l.take 30).length ≤ 30 := by rw [List.length_take]; omega
  have hmt : (m.take 30).length ≤ 30 := by rw [List.length_take]; omega
  have hv := u8_take hb 30
  have hw := u8_take gb 30
  have hv8 : ∀ x ∈ l.take 30, 0 ≤ x ∧ x ≤ 255 := fun x hx => hb x (List.mem_of_mem_take hx)
  have hw8 : ∀ x ∈ m.take 30, 0 ≤ x ∧ x ≤ 255 := fun x hx => gb x (List.mem_of_mem_take hx)
  refine w_seq ?_
  refine w_region ?_
  refine wl_op [] rfl rfl rfl rfl (op_box (T := 46) (l := 2) rfl) ?_
  rintro _ _ ⟨b2, rfl, rfl⟩
  refine wl_op [] rfl rfl rfl rfl (op_box (T := 46) (l := 3) rfl) ?_
  rintro _ _ ⟨b3, rfl, rfl⟩
  refine wl_det rfl rfl rfl (op_assign rfl) ?_
  refine wl_nil ?_
  refine st_tn ?_
  refine w_seq ?_
  refine w_drawW (fun β => [⟨19, [], [], [], noW (_), false, [], []⟩, ⟨20, [0], [], [], fun w => DetW _ _, false, [], []⟩, ⟨21, [], [], [], noW (_), false, [], []⟩, ⟨22, [2], [], [], fun w => DetW _ _, false, [], []⟩, ⟨5, [], [], [], fun w => DetW _ _, false, [], []⟩, ⟨6, [], [], [], fun w => DetW _ _, false, [], []⟩]) [] [2, 3] [⟨19, [], [], false, [], []⟩, ⟨20, [0], [], false, [], []⟩, ⟨21, [], [], false, [], []⟩, ⟨22, [2], [], false, [], []⟩, ⟨5, [], [], false, [], []⟩, ⟨6, [], [], false, [], []⟩] [[], [], [], [], [], []] [[], [], [], [], [], []] tMixq (fun _ => by rfl) (fun _ => by rfl) (by kernel_rfl) (by kernel_rfl) (by rfl) (by rfl)
      (fun β => ⟨.p rfl (by intro X; exact op_loadA rfl tA46q (Ent.lab (l := 2) rfl (says_cel 0)) (Nat.le_of_ble_eq_true rfl)),
      ⟨.px rfl (by intro X; rintro _ _ ⟨rfl, rfl⟩; refine OpT.mono (op_fn Try.func20 rfl rfl rfl (series_any 20 _ _ _ _ _ (by first | exact Sl.app (by assumption) _ | exact Sl.app (Sl.app (by assumption) _) _) (by assumption) (by assumption) (by assumption) (by assumption) (by assumption) (by assumption))) ?_; rintro _ _ ⟨a20, c20, rfl, rfl⟩; obtain ⟨w, rfl, rfl⟩ : ∃ w : Wt, w.a = a20 ∧ w.c = c20 := ⟨{ a := a20, c := c20 }, rfl, rfl⟩; exact ⟨w, rfl, rfl⟩),
      ⟨.p rfl (by intro X; exact op_loadA rfl tA46q (Ent.lab (l := 3) rfl (says_cel 0)) (Nat.le_of_ble_eq_true rfl)),
      ⟨.px rfl (by intro X; rintro _ _ ⟨rfl, rfl⟩; refine OpT.mono (op_fn Try.func20 rfl rfl rfl (series_any 22 _ _ _ _ _ (by first | exact Sl.app (by assumption) _ | exact Sl.app (Sl.app (by assumption) _) _) (by assumption) (by assumption) (by assumption) (by assumption) (by assumption) (by assumption))) ?_; rintro _ _ ⟨a22, c22, rfl, rfl⟩; obtain ⟨w, rfl, rfl⟩ : ∃ w : Wt, w.a = a22 ∧ w.c = c22 := ⟨{ a := a22, c := c22 }, rfl, rfl⟩; exact ⟨w, rfl, rfl⟩),
      ⟨.px rfl (by intro X; refine OpT.mono (op_alloc (l := 5) tN48q) ?_; rintro _ _ ⟨b5, rfl, rfl⟩; obtain ⟨w, rfl⟩ : ∃ w : Wt, w.b = b5 := ⟨{ b := b5 }, rfl⟩; exact ⟨w, rfl, rfl⟩),
      ⟨.px rfl (by intro X; refine OpT.mono (op_alloc (l := 6) tN48q) ?_; rintro _ _ ⟨b6, rfl, rfl⟩; obtain ⟨w, rfl⟩ : ∃ w : Wt, w.b = b6 := ⟨{ b := b6 }, rfl⟩; exact ⟨w, rfl, rfl⟩),
      trivial⟩⟩⟩⟩⟩⟩)
      (fun β β' => ⟨fun _ => by rfl, ⟨fun _ => by rfl, ⟨fun _ => by rfl, ⟨fun _ => by rfl, ⟨fun _ => by rfl, ⟨fun _ => by rfl, trivial⟩⟩⟩⟩⟩⟩) ?_
  intro β
  rintro _ _ ⟨rfl, rfl⟩ _ _ ⟨rfl, rfl⟩ _ _ ⟨rfl, rfl⟩ _ _ ⟨rfl, rfl⟩ _ _ ⟨rfl, rfl⟩ _ _ ⟨rfl, rfl⟩
  generalize (β 1).a = a20
  generalize (β 1).c = c20
  generalize (β 3).a = a22
  generalize (β 3).c = c22
  generalize (β 4).b = b5
  generalize (β 5).b = b6
  refine wl_norm (e' := [(5, _), (6, _), (20, _), (22, _)]) (.cons rfl (.cons rfl (.cons rfl (.cons rfl (.nil _))))) (by dsimp only [cond_false, cond_true, List.nil_append, List.cons_append]) ?_
  refine wl_op0 [5] rfl rfl rfl (op_store rfl rfl tZ48q (by rfl) (by rfl) (by exact Nat.le_of_ble_eq_true rfl)) ?_
  rintro _ _ ⟨rfl, rfl⟩
  refine wl_op0 [6] rfl rfl rfl (op_store rfl rfl tZ48q (by rfl) (by rfl) (by exact Nat.le_of_ble_eq_true rfl)) ?_
  rintro _ _ ⟨rfl, rfl⟩
  refine wl_nil ?_
  refine st_tn ?_
  refine w_seq ?_
  generalize kG x0 x1 x2 x3 = k at *
  generalize kG y0 y1 y2 y3 = k' at *
  have hfx : 0 ≤ x4 % 40 ∧ x4 % 40 ≤ 40 := by omega
  have hfy : 0 ≤ y4 % 40 ∧ y4 % 40 ≤ 40 := by omega
  generalize x4 % 40 = fr at *
  generalize y4 % 40 = fr' at *
  generalize l.take 30 = L at *
  generalize m.take 30 = M at *
  have hJl := sumR_len (k := k) (fr := fr) (l := L) (k' := k') (fr' := fr') (m := M) (by omega) (by omega) (by omega)
  have hJ2 := sumR_len (k := k') (fr := fr') (l := M) (k' := k) (fr' := fr) (m := L) (by omega) (by omega) (by omega)
  have hce : (sumR k' fr' M k fr L).e = (sumR k fr L k' fr' M).e := by
    by_cases hlm : 0 < L.length + M.length
    · rw [sumR_comm (k := k) (fr := fr) hlm]
    · exact (sumR_e0 (by omega)).symm
  refine w_region ?_
  refine wl_det rfl rfl rfl (op_loadA rfl tA48q (Ent.lab (l := 5) rfl (says_cel 0)) (Nat.le_of_ble_eq_true rfl)) ?_
  refine wl_det rfl rfl rfl (op_loadA rfl tA48q (Ent.lab (l := 6) rfl (says_cel 0)) (Nat.le_of_ble_eq_true rfl)) ?_
  refine wl_op [] rfl rfl rfl rfl (op_fn Try.func40 rfl rfl rfl (sum_any 26 _ _ _ _ (Sl.lab 20 rfl (by first | (simp [maxLen]; done) | (unfold maxLen; omega))) (Sl.lab 22 rfl (by first | (simp [maxLen]; done) | (unfold maxLen; omega))) (by omega) (by omega) (by omega) (by omega) (by assumption) (by assumption))) ?_
  rintro _ _ ⟨a26, c26, rfl, rfl⟩
  refine wl_det rfl rfl rfl (op_move rfl) ?_
  refine wl_det rfl rfl rfl (op_extract rfl rfl) ?_
  refine wl_det rfl rfl rfl (op_extract rfl rfl) ?_
  refine wl_op [] rfl rfl rfl rfl (op_alloc (l := 7) tN48q) ?_
  rintro _ _ ⟨b7, rfl, rfl⟩
  refine wl_op0 [7] rfl rfl rfl (op_store rfl rfl tZ48q (by rfl) (by rfl) (by exact Nat.le_of_ble_eq_true rfl)) ?_
  rintro _ _ ⟨rfl, rfl⟩
  refine wl_det rfl rfl rfl (op_assign rfl) ?_
  refine wl_nil ?_
  refine st_tn ?_
  refine w_seq ?_
  refine w_region ?_
  refine wl_det rfl rfl rfl (op_loadA rfl tA48q (Ent.lab (l := 5) rfl (says_cel 0)) (Nat.le_of_ble_eq_true rfl)) ?_
  refine wl_det rfl rfl rfl (op_loadA rfl tA48q (Ent.lab (l := 6) rfl (says_cel 0)) (Nat.le_of_ble_eq_true rfl)) ?_
  refine wl_op [] rfl rfl rfl rfl (op_fn Try.func41 rfl rfl rfl (lsum_any 32 _ _ _ _ (Sl.lab 20 rfl (by first | (simp [maxLen]; done) | (unfold maxLen; omega))) (Sl.lab 22 rfl (by first | (simp [maxLen]; done) | (unfold maxLen; omega))) (by omega) (by omega) (by omega) (by omega) (by omega) (by assumption) (by assumption))) ?_
  rintro _ _ ⟨a32, c32, rfl, rfl⟩
  refine wl_det rfl rfl rfl (op_move rfl) ?_
  refine wl_det rfl rfl rfl (op_extract rfl rfl) ?_
  refine wl_det rfl rfl rfl (op_extract rfl rfl) ?_
  refine wl_op [] rfl rfl rfl rfl (op_alloc (l := 9) tN48q) ?_
  rintro _ _ ⟨b9, rfl, rfl⟩
  refine wl_op0 [9] rfl rfl rfl (op_store rfl rfl tZ48q (by rfl) (by rfl) (by exact Nat.le_of_ble_eq_true rfl)) ?_
  rintro _ _ ⟨rfl, rfl⟩
  refine wl_det rfl rfl rfl (op_assign rfl) ?_
  refine wl_nil ?_
  refine st_tn ?_
  refine w_seq ?_
  refine w_region ?_
  refine wl_det rfl rfl rfl (op_loadA rfl tA48q (Ent.lab (l := 6) rfl (says_cel 0)) (Nat.le_of_ble_eq_true rfl)) ?_
  refine wl_det rfl rfl rfl (op_loadA rfl tA48q (Ent.lab (l := 5) rfl (says_cel 0)) (Nat.le_of_ble_eq_true rfl)) ?_
  refine wl_op [] rfl rfl rfl rfl (op_fn Try.func40 rfl rfl rfl (sum_any 38 _ _ _ _ (Sl.lab 22 rfl (by first | (simp [maxLen]; done) | (unfold maxLen; omega))) (Sl.lab 20 rfl (by first | (simp [maxLen]; done) | (unfold maxLen; omega))) (by omega) (by omega) (by omega) (by omega) (by assumption) (by assumption))) ?_
  rintro _ _ ⟨a38, c38, rfl, rfl⟩
  refine wl_det rfl rfl rfl (op_move rfl) ?_
  refine wl_det rfl rfl rfl (op_extract rfl rfl) ?_
  refine wl_det rfl rfl rfl (op_extract rfl rfl) ?_
  refine wl_op [] rfl rfl rfl rfl (op_alloc (l := 11) tN48q) ?_
  rintro _ _ ⟨b11, rfl, rfl⟩
  refine wl_op0 [11] rfl rfl rfl (op_store rfl rfl tZ48q (by rfl) (by rfl) (by exact Nat.le_of_ble_eq_true rfl)) ?_
  rintro _ _ ⟨rfl, rfl⟩
  refine wl_det rfl rfl rfl (op_assign rfl) ?_
  refine wl_nil ?_
  refine st_tn ?_
  refine w_seq ?_
  refine w_seq ?_
  refine w_region ?_
  refine wl_det rfl rfl rfl (op_fn Try.func16 rfl rfl rfl (known_any)) ?_
  refine wl_det rfl rfl rfl (op_not_t rfl) ?_
  refine wl_det rfl rfl rfl (op_move rfl) ?_
  refine wl_wanted_det rfl rfl rfl rfl rfl rfl rfl (op_move rfl) ?_
  refine wl_wanted_det rfl rfl rfl rfl rfl rfl rfl (op_move rfl) ?_
  refine wl_wanted_det rfl rfl rfl rfl rfl rfl rfl (op_val (v' := .bool false) (by simp) (op_neq rfl rfl)) ?_
  refine wl_det rfl rfl rfl (op_pick_f rfl rfl) ?_
  refine wl_det rfl rfl rfl (op_move rfl) ?_
  refine wl_wanted_det rfl rfl rfl rfl rfl rfl rfl (op_move rfl) ?_
  refine wl_wanted_det rfl rfl rfl rfl rfl rfl rfl (op_move rfl) ?_
  refine wl_wanted_det rfl rfl rfl rfl rfl rfl rfl (op_val (v' := .bool false) (by rw [hce]; simp) (op_neq rfl rfl)) ?_
  refine wl_det rfl rfl rfl (op_pick_f rfl rfl) ?_
  refine wl_det rfl rfl rfl (op_move rfl) ?_
  refine wl_wanted_det rfl rfl rfl rfl rfl rfl rfl (op_loadA rfl tA48q (Ent.lab (l := 7) rfl (says_cel 0)) (Nat.le_of_ble_eq_true rfl)) ?_
  refine wl_wanted_det rfl rfl rfl rfl rfl rfl rfl (op_loadA rfl tA48q (Ent.lab (l := 9) rfl (says_cel 0)) (Nat.le_of_ble_eq_true rfl)) ?_
  refine wl_wanted_det rfl rfl rfl rfl rfl rfl rfl (op_val (v' := .bool true) (by exact congrArg Value.bool (decide_eq_true ⟨sameK_refl _, rfl, rfl⟩)) (op_fn Try.func27 rfl rfl rfl (lsame_any _ _ _ _ (Sl.lab 26 rfl (by unfold maxLen; omega)) (Sl.labE 32 rfl (by unfold maxLen; omega) (fun h => alUse h (Sl.lab 20 rfl (by unfold maxLen; omega)) (Sl.lab 22 rfl (by unfold maxLen; omega))))))) ?_
  refine wl_wanted_det rfl rfl rfl rfl rfl rfl rfl (op_not_t rfl) ?_
  refine wl_det rfl rfl rfl (op_pick_f rfl rfl) ?_
  refine wl_det rfl rfl rfl (op_move rfl) ?_
  refine wl_wanted_det rfl rfl rfl rfl rfl rfl rfl (op_move rfl) ?_
  refine wl_wanted_det rfl rfl rfl rfl rfl rfl rfl (op_eql rfl rfl) ?_
  refine wl_wanted_det rfl rfl rfl rfl rfl rfl rfl (op_move rfl) ?_
  refine wl_gsplit (t := 62) rfl (fun hg62 => ?_) (fun hg62 => ?_)
  · -- 62 is True
    refine wl_wanted_det rfl rfl rfl rfl rfl rfl rfl (op_fieldAddr (off := 6) rfl tF48_5q) ?_
    refine wl_wanted_det rfl rfl rfl rfl rfl rfl rfl (op_load1 rfl tO25q (Ent.lab (l := 5) rfl (says_cel 6))) ?_
    refine wl_wanted_det rfl rfl rfl rfl rfl rfl rfl (op_lenT rfl tS25q (Sl.ent (Sl.lab 20 rfl (by first | (simp [maxLen]; done) | (unfold maxLen; omega))))) ?_
    refine wl_wanted_det rfl rfl rfl rfl rfl rfl rfl (op_fieldAddr (off := 6) rfl tF48_5q) ?_
    refine wl_wanted_det rfl rfl rfl rfl rfl rfl rfl (op_load1 rfl tO25q (Ent.lab (l := 6) rfl (says_cel 6))) ?_
    refine wl_wanted_det rfl rfl rfl rfl rfl rfl rfl (op_lenT rfl tS25q (Sl.ent (Sl.lab 22 rfl (by first | (simp [maxLen]; done) | (unfold maxLen; omega))))) ?_
    refine wl_wanted_det rfl rfl rfl rfl rfl rfl rfl (op_add' rfl rfl (by omega)) ?_
    refine wl_wanted_det rfl rfl rfl rfl rfl rfl rfl (op_gtr rfl rfl) ?_
    refine wl_wanted_det rfl rfl rfl rfl rfl rfl rfl (op_pick_t rfl rfl) ?_
    refine wl_wanted_det rfl rfl rfl rfl rfl rfl rfl (op_move rfl) ?_
    refine wl_gsplit (t := 72) rfl (fun hg72 => ?_) (fun hg72 => ?_)
    · -- 72 is True
      refine wl_wanted_det rfl rfl rfl rfl rfl rfl rfl (op_loadA rfl tA48q (Ent.lab (l := 11) rfl (says_cel 0)) (Nat.le_of_ble_eq_true rfl)) ?_
      refine wl_wanted_det rfl rfl rfl rfl rfl rfl rfl (op_loadA rfl tA48q (Ent.lab (l := 9) rfl (says_cel 0)) (Nat.le_of_ble_eq_true rfl)) ?_
      refine wl_wanted_det rfl rfl rfl rfl rfl rfl rfl (op_val (v' := .bool true) (by rw [sumR_comm (k := k) (fr := fr) (l := L) (k' := k') (fr' := fr') (m := M) (by omega)]; exact congrArg Value.bool (decide_eq_true ⟨sameK_refl _, rfl, rfl⟩)) (op_fn Try.func27 rfl rfl rfl (lsame_any _ _ _ _ (Sl.lab 38 rfl (by unfold maxLen; omega)) (Sl.labE 32 rfl (by unfold maxLen; omega) (fun h => alUse h (Sl.lab 20 rfl (by unfold maxLen; omega)) (Sl.lab 22 rfl (by unfold maxLen; omega))))))) ?_
      refine wl_wanted_det rfl rfl rfl rfl rfl rfl rfl (op_not_t rfl) ?_
      refine wl_wanted_det rfl rfl rfl rfl rfl rfl rfl (op_pick_t rfl rfl) ?_
      refine wl_det rfl rfl rfl (op_pick_f rfl rfl) ?_
      refine wl_nil ?_
      refine st_tn ?_
      refine w_cond_f (rfl) ?_
      refine w_skip ?_
      refine st_tn ?_
      refine w_seq ?_
      refine w_region ?_
      refine wl_op [] rfl rfl rfl rfl (op_buildSlice (enc := encZ) (l := [1099511627776, 1]) (lab := 79) tL25_2q rfl rfl (fun _ => rfl) rfl) ?_
      rintro _ _ ⟨a79, c79, rfl, rfl⟩
      refine wl_det rfl rfl rfl (op_build tB48q rfl rfl) ?_
      refine wl_op [] rfl rfl rfl rfl (op_alloc (l := 13) tN48q) ?_
      rintro _ _ ⟨b13, rfl, rfl⟩
      refine wl_op0 [13] rfl rfl rfl (op_store rfl rfl tZ48q (by rfl) (by rfl) (by exact Nat.le_of_ble_eq_true rfl)) ?_
      rintro _ _ ⟨rfl, rfl⟩
      refine wl_nil ?_
      refine st_tn ?_
      refine w_seq ?_
      refine w_region ?_
      refine wl_op [] rfl rfl rfl rfl (op_buildSlice (enc := encZ) (l := [1099511627776]) (lab := 81) tL25_1q rfl rfl (fun _ => rfl) rfl) ?_
      rintro _ _ ⟨a81, c81, rfl, rfl⟩
      refine wl_det rfl rfl rfl (op_build tB48q rfl rfl) ?_
      refine wl_op [] rfl rfl rfl rfl (op_alloc (l := 14) tN48q) ?_
      rintro _ _ ⟨b14, rfl, rfl⟩
      refine wl_op0 [14] rfl rfl rfl (op_store rfl rfl tZ48q (by rfl) (by rfl) (by exact Nat.le_of_ble_eq_true rfl)) ?_
      rintro _ _ ⟨rfl, rfl⟩
      refine wl_nil ?_
      refine st_tn ?_
      refine w_seq ?_
      refine w_region ?_
      refine wl_det rfl rfl rfl (op_loadA rfl tA48q (Ent.lab (l := 13) rfl (says_cel 0)) (Nat.le_of_ble_eq_true rfl)) ?_
      refine wl_det rfl rfl rfl (op_loadA rfl tA48q (Ent.lab (l := 14) rfl (says_cel 0)) (Nat.le_of_ble_eq_true rfl)) ?_
      refine wl_op [] rfl rfl rfl rfl (op_fn Try.func40 rfl rfl rfl (sum_any 86 kS 0 kS 1 (l := [1099511627776, 1]) (m := [1099511627776]) (Sl.lab 79 rfl (by simp [maxLen])) (Sl.lab 81 rfl (by simp [maxLen])) (by simp) (by simp) (by omega) (by omega) (by simp) (by simp))) ?_
      rintro _ _ ⟨a86, c86, rfl, rfl⟩
      refine wl_det rfl rfl rfl (op_move rfl) ?_
      refine wl_det rfl rfl rfl (op_extract rfl rfl) ?_
      refine wl_det rfl rfl rfl (op_extract rfl rfl) ?_
      refine wl_op [] rfl rfl rfl rfl (op_alloc (l := 15) tN48q) ?_
      rintro _ _ ⟨b15, rfl, rfl⟩
      refine wl_op0 [15] rfl rfl rfl (op_store rfl rfl tZ48q (by rfl) (by rfl) (by exact Nat.le_of_ble_eq_true rfl)) ?_
      rintro _ _ ⟨rfl, rfl⟩
      refine wl_det rfl rfl rfl (op_assign rfl) ?_
      refine wl_nil ?_
      refine st_tn ?_
      refine w_seq ?_
      refine w_drawW (fun β => [⟨90, [], [], [], noW (_), false, [], []⟩, ⟨91, [], [], [], noW (_), false, [], []⟩, ⟨92, [], [], [], noW (_), false, [], []⟩, ⟨93, [1, 2], [], [], fun w => AndW _ (DetW _ _), false, [], []⟩, ⟨94, [0, 3], [], [], fun w => DetW _ _, false, [], []⟩, ⟨89, [4], [], [], noW (_), false, [], []⟩, ⟨95, [5], [], [], noW (_), false, [], []⟩, ⟨96, [5], [], [], noW (_), false, [], []⟩, ⟨17, [], [], [], fun w => DetW _ _, true, [], []⟩, ⟨112, [6], [8], [], noW (_), false, [], []⟩]) [] [13, 14] [⟨90, [], [], false, [], []⟩, ⟨91, [], [], false, [], []⟩, ⟨92, [], [], false, [], []⟩, ⟨93, [1, 2], [], false, [], []⟩, ⟨94, [0, 3], [], false, [], []⟩, ⟨89, [4], [], false, [], []⟩, ⟨95, [5], [], false, [], []⟩, ⟨96, [5], [], false, [], []⟩, ⟨17, [], [], true, [], []⟩, ⟨112, [6], [8], false, [], []⟩] [[], [], [], [], [3], [3, 4], [3, 4], [3, 4], [], [3, 4, 8]] [[], [], [], [], [], [], [], [], [], []] tMixq (fun _ => by rfl) (fun _ => by rfl) (by kernel_rfl) (by kernel_rfl) (by rfl) (by rfl)
          (fun β => ⟨.p rfl (by intro X; exact op_loadA rfl tA48q (Ent.lab (l := 13) rfl (says_cel 0)) (Nat.le_of_ble_eq_true rfl)),
          ⟨.p rfl (by intro X; exact op_loadA rfl tA48q (Ent.lab (l := 14) rfl (says_cel 0)) (Nat.le_of_ble_eq_true rfl)),
          ⟨.p rfl (by intro X; exact op_build tB37q rfl rfl),
          ⟨.px rfl (by intro X; rintro _ _ ⟨rfl, rfl⟩ _ _ ⟨rfl, rfl⟩; refine OpT.mono (op_fn Try.func42 rfl rfl rfl (window_any 93 kS 1 0 0 (l := [1099511627776]) (Sl.lab 81 rfl (by simp [maxLen])) (by simp) (by omega) (by omega) (by omega))) ?_; rintro _ _ ⟨m93, a93, c93, hm93, rfl, rfl⟩; obtain ⟨w, rfl, rfl, rfl⟩ : ∃ w : Wt, w.l = m93 ∧ w.a = a93 ∧ w.c = c93 := ⟨{ l := m93, a := a93, c := c93 }, rfl, rfl, rfl⟩; exact ⟨w, hm93, rfl, rfl⟩),
          ⟨.px rfl (by intro X; rintro _ _ ⟨rfl, rfl⟩ _ _ ⟨hm93, rfl, rfl⟩; refine OpT.mono (op_fn Try.func40 rfl rfl rfl (sum_any 94 kS 0 kS (winF 1 [1099511627776] 0 0) (l := [1099511627776, 1]) (m := (β 3).l) (Sl.lab 79 rfl (by simp [maxLen])) (Sl.lab 93 rfl (by rw [hm93, win_nil]; simp [maxLen])) (by simp) (by rw [hm93, win_nil]; simp) (by omega) (by decide +kernel) (by simp) (by rw [hm93, win_nil]; simp))) ?_; rintro _ _ ⟨a94, c94, rfl, rfl⟩; obtain ⟨w, rfl, rfl⟩ : ∃ w : Wt, w.a = a94 ∧ w.c = c94 := ⟨{ a := a94, c := c94 }, rfl, rfl⟩; exact ⟨w, rfl, rfl⟩),
          ⟨.p rfl (by intro X; rintro _ _ ⟨rfl, rfl⟩; exact op_move rfl),
          ⟨.p rfl (by intro X; rintro _ _ ⟨rfl, rfl⟩; exact op_extract rfl rfl),
          ⟨.p rfl (by intro X; rintro _ _ ⟨rfl, rfl⟩; exact op_extract rfl rfl),
          ⟨.px rfl (by intro X; refine OpT.mono (op_alloc (l := 17) tN48q) ?_; rintro _ _ ⟨b17, rfl, rfl⟩; obtain ⟨w, rfl⟩ : ∃ w : Wt, w.b = b17 := ⟨{ b := b17 }, rfl⟩; exact ⟨w, rfl, rfl⟩),
          ⟨.p rfl (by intro X; rintro _ _ ⟨rfl, rfl⟩ _ _ ⟨rfl, rfl⟩; show OpT _ _ _ _ _ _ [(_, _)] _; exact op_store rfl rfl tZ48q (by rfl) (by rfl) (by exact Nat.le_of_ble_eq_true rfl)) (hu := by exact .inr fun _ _ h => h.1),
          trivial⟩⟩⟩⟩⟩⟩⟩⟩⟩⟩)
          (fun β β' => ⟨fun _ => by rfl, ⟨fun _ => by rfl, ⟨fun _ => by rfl, ⟨fun _ => by rfl, ⟨fun h => by first | rfl | (simp only [h 3 (by decide)]), ⟨fun h => by first | rfl | (simp only [h 3 (by decide), h 4 (by decide)]), ⟨fun h => by first | rfl | (simp only [h 3 (by decide), h 4 (by decide)]), ⟨fun h => by first | rfl | (simp only [h 3 (by decide), h 4 (by decide)]), ⟨fun _ => by rfl, ⟨fun h => by first | rfl | (simp only [h 3 (by decide), h 4 (by decide), h 8 (by decide)]), trivial⟩⟩⟩⟩⟩⟩⟩⟩⟩⟩) ?_
      intro β
      rintro _ _ ⟨rfl, rfl⟩ _ _ ⟨rfl, rfl⟩ _ _ ⟨rfl, rfl⟩ _ _ ⟨hm93, rfl, rfl⟩ _ _ ⟨rfl, rfl⟩ _ _ ⟨rfl, rfl⟩ _ _ ⟨rfl, rfl⟩ _ _ ⟨rfl, rfl⟩ _ _ ⟨rfl, rfl⟩ _ _ ⟨rfl, rfl⟩
      generalize (β 3).l = m93 at hm93 ⊢
      generalize (β 3).a = a93 at hm93 ⊢
      generalize (β 3).c = c93 at hm93 ⊢
      generalize (β 4).a = a94 at hm93 ⊢
      generalize (β 4).c = c94 at hm93 ⊢
      generalize (β 8).b = b17 at hm93 ⊢
      refine wl_norm (e' := [(16, _), (96, _)]) (.cons rfl (.cons rfl (.nil _))) (by dsimp only [cond_false, cond_true, List.nil_append, List.cons_append]) ?_
      refine wl_det rfl rfl rfl (op_assign rfl) ?_
      refine wl_nil ?_
      refine st_tn ?_
      refine w_seq ?_
      refine w_region ?_
      refine wl_det rfl rfl rfl (op_move rfl) ?_
      refine wl_det rfl rfl rfl (op_val (v' := .bool true) (by rw [sum_over]; rfl) (op_eql rfl rfl)) ?_
      refine wl_det rfl rfl rfl (op_move rfl) ?_
      refine wl_wanted_det rfl rfl rfl rfl rfl rfl rfl (op_move rfl) ?_
      refine wl_wanted_det rfl rfl rfl rfl rfl rfl rfl (op_val (v' := .bool true) (by rw [hm93, sum_one]; rfl) (op_eql rfl rfl)) ?_
      refine wl_det rfl rfl rfl (op_pick_t rfl rfl) ?_
      refine wl_det rfl rfl rfl (op_assign rfl) ?_
      refine wl_nil ?_
      refine st_tn ?_
      refine w_ret ?_
      refine st_ret (vs := [_]) [] Try.results11 ⟨rfl, trivial⟩ rfl ?_
      refine ⟨_, rfl, ?_⟩
      exact ⟨rfl, rfl⟩
    · -- 72 is False
      refine wl_unwanted rfl rfl rfl rfl rfl rfl rfl rfl ?_
      refine wl_unwanted rfl rfl rfl rfl rfl rfl rfl rfl ?_
      refine wl_unwanted rfl rfl rfl rfl rfl rfl rfl rfl ?_
      refine wl_unwanted rfl rfl rfl rfl rfl rfl rfl rfl ?_
      refine wl_wanted_det rfl rfl rfl rfl rfl rfl rfl (op_pick_f rfl rfl) ?_
      refine wl_det rfl rfl rfl (op_pick_f rfl rfl) ?_
      refine wl_nil ?_
      refine st_tn ?_
      refine w_cond_f (rfl) ?_
      refine w_skip ?_
      refine st_tn ?_
      refine w_seq ?_
      refine w_region ?_
      refine wl_op [] rfl rfl rfl rfl (op_buildSlice (enc := encZ) (l := [1099511627776, 1]) (lab := 79) tL25_2q rfl rfl (fun _ => rfl) rfl) ?_
      rintro _ _ ⟨a79, c79, rfl, rfl⟩
      refine wl_det rfl rfl rfl (op_build tB48q rfl rfl) ?_
      refine wl_op [] rfl rfl rfl rfl (op_alloc (l := 13) tN48q) ?_
      rintro _ _ ⟨b13, rfl, rfl⟩
      refine wl_op0 [13] rfl rfl rfl (op_store rfl rfl tZ48q (by rfl) (by rfl) (by exact Nat.le_of_ble_eq_true rfl)) ?_
      rintro _ _ ⟨rfl, rfl⟩
      refine wl_nil ?_
      refine st_tn ?_
      refine w_seq ?_
      refine w_region ?_
      refine wl_op [] rfl rfl rfl rfl (op_buildSlice (enc := encZ) (l := [1099511627776]) (lab := 81) tL25_1q rfl rfl (fun _ => rfl) rfl) ?_
      rintro _ _ ⟨a81, c81, rfl, rfl⟩
      refine wl_det rfl rfl rfl (op_build tB48q rfl rfl) ?_
      refine wl_op [] rfl rfl rfl rfl (op_alloc (l := 14) tN48q) ?_
      rintro _ _ ⟨b14, rfl, rfl⟩
      refine wl_op0 [14] rfl rfl rfl (op_store rfl rfl tZ48q (by rfl) (by rfl) (by exact Nat.le_of_ble_eq_true rfl)) ?_
      rintro _ _ ⟨rfl, rfl⟩
      refine wl_nil ?_
      refine st_tn ?_
      refine w_seq ?_
      refine w_region ?_
      refine wl_det rfl rfl rfl (op_loadA rfl tA48q (Ent.lab (l := 13) rfl (says_cel 0)) (Nat.le_of_ble_eq_true rfl)) ?_
      refine wl_det rfl rfl rfl (op_loadA rfl tA48q (Ent.lab (l := 14) rfl (says_cel 0)) (Nat.le_of_ble_eq_true rfl)) ?_
      refine wl_op [] rfl rfl rfl rfl (op_fn Try.func40 rfl rfl rfl (sum_any 86 kS 0 kS 1 (l := [1099511627776, 1]) (m := [1099511627776]) (Sl.lab 79 rfl (by simp [maxLen])) (Sl.lab 81 rfl (by simp [maxLen])) (by simp) (by simp) (by omega) (by omega) (by simp) (by simp))) ?_
      rintro _ _ ⟨a86, c86, rfl, rfl⟩
      refine wl_det rfl rfl rfl (op_move rfl) ?_
      refine wl_det rfl rfl rfl (op_extract rfl rfl) ?_
      refine wl_det rfl rfl rfl (op_extract rfl rfl) ?_
      refine wl_op [] rfl rfl rfl rfl (op_alloc (l := 15) tN48q) ?_
      rintro _ _ ⟨b15, rfl, rfl⟩
      refine wl_op0 [15] rfl rfl rfl (op_store rfl rfl tZ48q (by rfl) (by rfl) (by exact Nat.le_of_ble_eq_true rfl)) ?_
      rintro _ _ ⟨rfl, rfl⟩
      refine wl_det rfl rfl rfl (op_assign rfl) ?_
      refine wl_nil ?_
      refine st_tn ?_
      refine w_seq ?_
      refine w_drawW (fun β => [⟨90, [], [], [], noW (_), false, [], []⟩, ⟨91, [], [], [], noW (_), false, [], []⟩, ⟨92, [], [], [], noW (_), false, [], []⟩, ⟨93, [1, 2], [], [], fun w => AndW _ (DetW _ _), false, [], []⟩, ⟨94, [0, 3], [], [], fun w => DetW _ _, false, [], []⟩, ⟨89, [4], [], [], noW (_), false, [], []⟩, ⟨95, [5], [], [], noW (_), false, [], []⟩, ⟨96, [5], [], [], noW (_), false, [], []⟩, ⟨17, [], [], [], fun w => DetW _ _, true, [], []⟩, ⟨112, [6], [8], [], noW (_), false, [], []⟩]) [] [13, 14] [⟨90, [], [], false, [], []⟩, ⟨91, [], [], false, [], []⟩, ⟨92, [], [], false, [], []⟩, ⟨93, [1, 2], [], false, [], []⟩, ⟨94, [0, 3], [], false, [], []⟩, ⟨89, [4], [], false, [], []⟩, ⟨95, [5], [], false, [], []⟩, ⟨96, [5], [], false, [], []⟩, ⟨17, [], [], true, [], []⟩, ⟨112, [6], [8], false, [], []⟩] [[], [], [], [], [3], [3, 4], [3, 4], [3, 4], [], [3, 4, 8]] [[], [], [], [], [], [], [], [], [], []] tMixq (fun _ => by rfl) (fun _ => by rfl) (by kernel_rfl) (by kernel_rfl) (by rfl) (by rfl)
          (fun β => ⟨.p rfl (by intro X; exact op_loadA rfl tA48q (Ent.lab (l := 13) rfl (says_cel 0)) (Nat.le_of_ble_eq_true rfl)),
          ⟨.p rfl (by intro X; exact op_loadA rfl tA48q (Ent.lab (l := 14) rfl (says_cel 0)) (Nat.le_of_ble_eq_true rfl)),
          ⟨.p rfl (by intro X; exact op_build tB37q rfl rfl),
          ⟨.px rfl (by intro X; rintro _ _ ⟨rfl, rfl⟩ _ _ ⟨rfl, rfl⟩; refine OpT.mono (op_fn Try.func42 rfl rfl rfl (window_any 93 kS 1 0 0 (l := [1099511627776]) (Sl.lab 81 rfl (by simp [maxLen])) (by simp) (by omega) (by omega) (by omega))) ?_; rintro _ _ ⟨m93, a93, c93, hm93, rfl, rfl⟩; obtain ⟨w, rfl, rfl, rfl⟩ : ∃ w : Wt, w.l = m93 ∧ w.a = a93 ∧ w.c = c93 := ⟨{ l := m93, a := a93, c := c93 }, rfl, rfl, rfl⟩; exact ⟨w, hm93, rfl, rfl⟩),
          ⟨.px rfl (by intro X; rintro _ _ ⟨rfl, rfl⟩ _ _ ⟨hm93, rfl, rfl⟩; refine OpT.mono (op_fn Try.func40 rfl rfl rfl (sum_any 94 kS 0 kS (winF 1 [1099511627776] 0 0) (l := [1099511627776, 1]) (m := (β 3).l) (Sl.lab 79 rfl (by simp [maxLen])) (Sl.lab 93 rfl (by rw [hm93, win_nil]; simp [maxLen])) (by simp) (by rw [hm93, win_nil]; simp) (by omega) (by decide +kernel) (by simp) (by rw [hm93, win_nil]; simp))) ?_; rintro _ _ ⟨a94, c94, rfl, rfl⟩; obtain ⟨w, rfl, rfl⟩ : ∃ w : Wt, w.a = a94 ∧ w.c = c94 := ⟨{ a := a94, c := c94 }, rfl, rfl⟩; exact ⟨w, rfl, rfl⟩),
          ⟨.p rfl (by intro X; rintro _ _ ⟨rfl, rfl⟩; exact op_move rfl),
          ⟨.p rfl (by intro X; rintro _ _ ⟨rfl, rfl⟩; exact op_extract rfl rfl),
          ⟨.p rfl (by intro X; rintro _ _ ⟨rfl, rfl⟩; exact op_extract rfl rfl),
          ⟨.px rfl (by intro X; refine OpT.mono (op_alloc (l := 17) tN48q) ?_; rintro _ _ ⟨b17, rfl, rfl⟩; obtain ⟨w, rfl⟩ : ∃ w : Wt, w.b = b17 := ⟨{ b := b17 }, rfl⟩; exact ⟨w, rfl, rfl⟩),
          ⟨.p rfl (by intro X; rintro _ _ ⟨rfl, rfl⟩ _ _ ⟨rfl, rfl⟩; show OpT _ _ _ _ _ _ [(_, _)] _; exact op_store rfl rfl tZ48q (by rfl) (by rfl) (by exact Nat.le_of_ble_eq_true rfl)) (hu := by exact .inr fun _ _ h => h.1),
          trivial⟩⟩⟩⟩⟩⟩⟩⟩⟩⟩)
          (fun β β' => ⟨fun _ => by rfl, ⟨fun _ => by rfl, ⟨fun _ => by rfl, ⟨fun _ => by rfl, ⟨fun h => by first | rfl | (simp only [h 3 (by decide)]), ⟨fun h => by first | rfl | (simp only [h 3 (by decide), h 4 (by decide)]), ⟨fun h => by first | rfl | (simp only [h 3 (by decide), h 4 (by decide)]), ⟨fun h => by first | rfl | (simp only [h 3 (by decide), h 4 (by decide)]), ⟨fun _ => by rfl, ⟨fun h => by first | rfl | (simp only [h 3 (by decide), h 4 (by decide), h 8 (by decide)]), trivial⟩⟩⟩⟩⟩⟩⟩⟩⟩⟩) ?_
      intro β
      rintro _ _ ⟨rfl, rfl⟩ _ _ ⟨rfl, rfl⟩ _ _ ⟨rfl, rfl⟩ _ _ ⟨hm93, rfl, rfl⟩ _ _ ⟨rfl, rfl⟩ _ _ ⟨rfl, rfl⟩ _ _ ⟨rfl, rfl⟩ _ _ ⟨rfl, rfl⟩ _ _ ⟨rfl, rfl⟩ _ _ ⟨rfl, rfl⟩
      generalize (β 3).l = m93 at hm93 ⊢
      generalize (β 3).a = a93 at hm93 ⊢
      generalize (β 3).c = c93 at hm93 ⊢
      generalize (β 4).a = a94 at hm93 ⊢
      generalize (β 4).c = c94 at hm93 ⊢
      generalize (β 8).b = b17 at hm93 ⊢
      refine wl_norm (e' := [(16, _), (96, _)]) (.cons rfl (.cons rfl (.nil _))) (by dsimp only [cond_false, cond_true, List.nil_append, List.cons_append]) ?_
      refine wl_det rfl rfl rfl (op_assign rfl) ?_
      refine wl_nil ?_
      refine st_tn ?_
      refine w_seq ?_
      refine w_region ?_
      refine wl_det rfl rfl rfl (op_move rfl) ?_
      refine wl_det rfl rfl rfl (op_val (v' := .bool true) (by rw [sum_over]; rfl) (op_eql rfl rfl)) ?_
      refine wl_det rfl rfl rfl (op_move rfl) ?_
      refine wl_wanted_det rfl rfl rfl rfl rfl rfl rfl (op_move rfl) ?_
      refine wl_wanted_det rfl rfl rfl rfl rfl rfl rfl (op_val (v' := .bool true) (by rw [hm93, sum_one]; rfl) (op_eql rfl rfl)) ?_
      refine wl_det rfl rfl rfl (op_pick_t rfl rfl) ?_
      refine wl_det rfl rfl rfl (op_assign rfl) ?_
      refine wl_nil ?_
      refine st_tn ?_
      refine w_ret ?_
      refine st_ret (vs := [_]) [] Try.results11 ⟨rfl, trivial⟩ rfl ?_
      refine ⟨_, rfl, ?_⟩
      exact ⟨rfl, rfl⟩
  · -- 62 is False
    refine wl_unwanted rfl rfl rfl rfl rfl rfl rfl rfl ?_
    refine wl_unwanted rfl rfl rfl rfl rfl rfl rfl rfl ?_
    refine wl_unwanted rfl rfl rfl rfl rfl rfl rfl rfl ?_
    refine wl_unwanted rfl rfl rfl rfl rfl rfl rfl rfl ?_
    refine wl_unwanted rfl rfl rfl rfl rfl rfl rfl rfl ?_
    refine wl_unwanted rfl rfl rfl rfl rfl rfl rfl rfl ?_
    refine wl_unwanted rfl rfl rfl rfl rfl rfl rfl rfl ?_
    refine wl_unwanted rfl rfl rfl rfl rfl rfl rfl rfl ?_
    refine wl_wanted_det rfl rfl rfl rfl rfl rfl rfl (op_pick_f rfl rfl) ?_
    refine wl_wanted_det rfl rfl rfl rfl rfl rfl rfl (op_move rfl) ?_
    refine wl_unwanted rfl rfl rfl rfl rfl rfl rfl rfl ?_
    refine wl_unwanted rfl rfl rfl rfl rfl rfl rfl rfl ?_
    refine wl_unwanted rfl rfl rfl rfl rfl rfl rfl rfl ?_
    refine wl_unwanted rfl rfl rfl rfl rfl rfl rfl rfl ?_
    refine wl_wanted_det rfl rfl rfl rfl rfl rfl rfl (op_pick_f rfl rfl) ?_
    refine wl_det rfl rfl rfl (op_pick_f rfl rfl) ?_
    refine wl_nil ?_
    refine st_tn ?_
    refine w_cond_f (rfl) ?_
    refine w_skip ?_
    refine st_tn ?_
    refine w_seq ?_
    refine w_region ?_
    refine wl_op [] rfl rfl rfl rfl (op_buildSlice (enc := encZ) (l := [1099511627776, 1]) (lab := 79) tL25_2q rfl rfl (fun _ => rfl) rfl) ?_
    rintro _ _ ⟨a79, c79, rfl, rfl⟩
    refine wl_det rfl rfl rfl (op_build tB48q rfl rfl) ?_
    refine wl_op [] rfl rfl rfl rfl (op_alloc (l := 13) tN48q) ?_
    rintro _ _ ⟨b13, rfl, rfl⟩
    refine wl_op0 [13] rfl rfl rfl (op_store rfl rfl tZ48q (by rfl) (by rfl) (by exact Nat.le_of_ble_eq_true rfl)) ?_
    rintro _ _ ⟨rfl, rfl⟩
    refine wl_nil ?_
    refine st_tn ?_
    refine w_seq ?_
    refine w_region ?_
    refine wl_op [] rfl rfl rfl rfl (op_buildSlice (enc := encZ) (l := [1099511627776]) (lab := 81) tL25_1q rfl rfl (fun _ => rfl) rfl) ?_
    rintro _ _ ⟨a81, c81, rfl, rfl⟩
    refine wl_det rfl rfl rfl (op_build tB48q rfl rfl) ?_
    refine wl_op [] rfl rfl rfl rfl (op_alloc (l := 14) tN48q) ?_
    rintro _ _ ⟨b14, rfl, rfl⟩
    refine wl_op0 [14] rfl rfl rfl (op_store rfl rfl tZ48q (by rfl) (by rfl) (by exact Nat.le_of_ble_eq_true rfl)) ?_
    rintro _ _ ⟨rfl, rfl⟩
    refine wl_nil ?_
    refine st_tn ?_
    refine w_seq ?_
    refine w_region ?_
    refine wl_det rfl rfl rfl (op_loadA rfl tA48q (Ent.lab (l := 13) rfl (says_cel 0)) (Nat.le_of_ble_eq_true rfl)) ?_
    refine wl_det rfl rfl rfl (op_loadA rfl tA48q (Ent.lab (l := 14) rfl (says_cel 0)) (Nat.le_of_ble_eq_true rfl)) ?_
    refine wl_op [] rfl rfl rfl rfl (op_fn Try.func40 rfl rfl rfl (sum_any 86 kS 0 kS 1 (l := [1099511627776, 1]) (m := [1099511627776]) (Sl.lab 79 rfl (by simp [maxLen])) (Sl.lab 81 rfl (by simp [maxLen])) (by simp) (by simp) (by omega) (by omega) (by simp) (by simp))) ?_
    rintro _ _ ⟨a86, c86, rfl, rfl⟩
    refine wl_det rfl rfl rfl (op_move rfl) ?_
    refine wl_det rfl rfl rfl (op_extract rfl rfl) ?_
    refine wl_det rfl rfl rfl (op_extract rfl rfl) ?_
    refine wl_op [] rfl rfl rfl rfl (op_alloc (l := 15) tN48q) ?_
    rintro _ _ ⟨b15, rfl, rfl⟩
    refine wl_op0 [15] rfl rfl rfl (op_store rfl rfl tZ48q (by rfl) (by rfl) (by exact Nat.le_of_ble_eq_true rfl)) ?_
    rintro _ _ ⟨rfl, rfl⟩
    refine wl_det rfl rfl rfl (op_assign rfl) ?_
    refine wl_nil ?_
    refine st_tn ?_
    refine w_seq ?_
    refine w_drawW (fun β => [⟨90, [], [], [], noW (_), false, [], []⟩, ⟨91, [], [], [], noW (_), false, [], []⟩, ⟨92, [], [], [], noW (_), false, [], []⟩, ⟨93, [1, 2], [], [], fun w => AndW _ (DetW _ _), false, [], []⟩, ⟨94, [0, 3], [], [], fun w => DetW _ _, false, [], []⟩, ⟨89, [4], [], [], noW (_), false, [], []⟩, ⟨95, [5], [], [], noW (_), false, [], []⟩, ⟨96, [5], [], [], noW (_), false, [], []⟩, ⟨17, [], [], [], fun w => DetW _ _, true, [], []⟩, ⟨112, [6], [8], [], noW (_), false, [], []⟩]) [] [13, 14] [⟨90, [], [], false, [], []⟩, ⟨91, [], [], false, [], []⟩, ⟨92, [], [], false, [], []⟩, ⟨93, [1, 2], [], false, [], []⟩, ⟨94, [0, 3], [], false, [], []⟩, ⟨89, [4], [], false, [], []⟩, ⟨95, [5], [], false, [], []⟩, ⟨96, [5], [], false, [], []⟩, ⟨17, [], [], true, [], []⟩, ⟨112, [6], [8], false, [], []⟩] [[], [], [], [], [3], [3, 4], [3, 4], [3, 4], [], [3, 4, 8]] [[], [], [], [], [], [], [], [], [], []] tMixq (fun _ => by rfl) (fun _ => by rfl) (by kernel_rfl) (by kernel_rfl) (by rfl) (by rfl)
        (fun β => ⟨.p rfl (by intro X; exact op_loadA rfl tA48q (Ent.lab (l := 13) rfl (says_cel 0)) (Nat.le_of_ble_eq_true rfl)),
        ⟨.p rfl (by intro X; exact op_loadA rfl tA48q (Ent.lab (l := 14) rfl (says_cel 0)) (Nat.le_of_ble_eq_true rfl)),
        ⟨.p rfl (by intro X; exact op_build tB37q rfl rfl),
        ⟨.px rfl (by intro X; rintro _ _ ⟨rfl, rfl⟩ _ _ ⟨rfl, rfl⟩; refine OpT.mono (op_fn Try.func42 rfl rfl rfl (window_any 93 kS 1 0 0 (l := [1099511627776]) (Sl.lab 81 rfl (by simp [maxLen])) (by simp) (by omega) (by omega) (by omega))) ?_; rintro _ _ ⟨m93, a93, c93, hm93, rfl, rfl⟩; obtain ⟨w, rfl, rfl, rfl⟩ : ∃ w : Wt, w.l = m93 ∧ w.a = a93 ∧ w.c = c93 := ⟨{ l := m93, a := a93, c := c93 }, rfl, rfl, rfl⟩; exact ⟨w, hm93, rfl, rfl⟩),
        ⟨.px rfl (by intro X; rintro _ _ ⟨rfl, rfl⟩ _ _ ⟨hm93, rfl, rfl⟩; refine OpT.mono (op_fn Try.func40 rfl rfl rfl (sum_any 94 kS 0 kS (winF 1 [1099511627776] 0 0) (l := [1099511627776, 1]) (m := (β 3).l) (Sl.lab 79 rfl (by simp [maxLen])) (Sl.lab 93 rfl (by rw [hm93, win_nil]; simp [maxLen])) (by simp) (by rw [hm93, win_nil]; simp) (by omega) (by decide +kernel) (by simp) (by rw [hm93, win_nil]; simp))) ?_; rintro _ _ ⟨a94, c94, rfl, rfl⟩; obtain ⟨w, rfl, rfl⟩ : ∃ w : Wt, w.a = a94 ∧ w.c = c94 := ⟨{ a := a94, c := c94 }, rfl, rfl⟩; exact ⟨w, rfl, rfl⟩),
        ⟨.p rfl (by intro X; rintro _ _ ⟨rfl, rfl⟩; exact op_move rfl),
        ⟨.p rfl (by intro X; rintro _ _ ⟨rfl, rfl⟩; exact op_extract rfl rfl),
        ⟨.p rfl (by intro X; rintro _ _ ⟨rfl, rfl⟩; exact op_extract rfl rfl),
        ⟨.px rfl (by intro X; refine OpT.mono (op_alloc (l := 17) tN48q) ?_; rintro _ _ ⟨b17, rfl, rfl⟩; obtain ⟨w, rfl⟩ : ∃ w : Wt, w.b = b17 := ⟨{ b := b17 }, rfl⟩; exact ⟨w, rfl, rfl⟩),
        ⟨.p rfl (by intro X; rintro _ _ ⟨rfl, rfl⟩ _ _ ⟨rfl, rfl⟩; show OpT _ _ _ _ _ _ [(_, _)] _; exact op_store rfl rfl tZ48q (by rfl) (by rfl) (by exact Nat.le_of_ble_eq_true rfl)) (hu := by exact .inr fun _ _ h => h.1),
        trivial⟩⟩⟩⟩⟩⟩⟩⟩⟩⟩)
        (fun β β' => ⟨fun _ => by rfl, ⟨fun _ => by rfl, ⟨fun _ => by rfl, ⟨fun _ => by rfl, ⟨fun h => by first | rfl | (simp only [h 3 (by decide)]), ⟨fun h => by first | rfl | (simp only [h 3 (by decide), h 4 (by decide)]), ⟨fun h => by first | rfl | (simp only [h 3 (by decide), h 4 (by decide)]), ⟨fun h => by first | rfl | (simp only [h 3 (by decide), h 4 (by decide)]), ⟨fun _ => by rfl, ⟨fun h => by first | rfl | (simp only [h 3 (by decide), h 4 (by decide), h 8 (by decide)]), trivial⟩⟩⟩⟩⟩⟩⟩⟩⟩⟩) ?_
    intro β
    rintro _ _ ⟨rfl, rfl⟩ _ _ ⟨rfl, rfl⟩ _ _ ⟨rfl, rfl⟩ _ _ ⟨hm93, rfl, rfl⟩ _ _ ⟨rfl, rfl⟩ _ _ ⟨rfl, rfl⟩ _ _ ⟨rfl, rfl⟩ _ _ ⟨rfl, rfl⟩ _ _ ⟨rfl, rfl⟩ _ _ ⟨rfl, rfl⟩
    generalize (β 3).l = m93 at hm93 ⊢
    generalize (β 3).a = a93 at hm93 ⊢
    generalize (β 3).c = c93 at hm93 ⊢
    generalize (β 4).a = a94 at hm93 ⊢
    generalize (β 4).c = c94 at hm93 ⊢
    generalize (β 8).b = b17 at hm93 ⊢
    refine wl_norm (e' := [(16, _), (96, _)]) (.cons rfl (.cons rfl (.nil _))) (by dsimp only [cond_false, cond_true, List.nil_append, List.cons_append]) ?_
    refine wl_det rfl rfl rfl (op_assign rfl) ?_
    refine wl_nil ?_
    refine st_tn ?_
    refine w_seq ?_
    refine w_region ?_
    refine wl_det rfl rfl rfl (op_move rfl) ?_
    refine wl_det rfl rfl rfl (op_val (v' := .bool true) (by rw [sum_over]; rfl) (op_eql rfl rfl)) ?_
    refine wl_det rfl rfl rfl (op_move rfl) ?_
    refine wl_wanted_det rfl rfl rfl rfl rfl rfl rfl (op_move rfl) ?_
    refine wl_wanted_det rfl rfl rfl rfl rfl rfl rfl (op_val (v' := .bool true) (by rw [hm93, sum_one]; rfl) (op_eql rfl rfl)) ?_
    refine wl_det rfl rfl rfl (op_pick_t rfl rfl) ?_
    refine wl_det rfl rfl rfl (op_assign rfl) ?_
    refine wl_nil ?_
    refine st_tn ?_
    refine w_ret ?_
    refine st_ret (vs := [_]) [] Try.results11 ⟨rfl, trivial⟩ rfl ?_
    refine ⟨_, rfl, ?_⟩
    exact ⟨rfl, rfl⟩

end Go.Proofs.Ytbgddblfalahfaa
