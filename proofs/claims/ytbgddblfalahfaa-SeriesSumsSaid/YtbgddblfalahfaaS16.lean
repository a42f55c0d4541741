/- The law SeriesJoins (layer 43). Conditions: none. -/
import Derived.Test.YtbgddblfalahfaaS15
namespace Go.Proofs.Ytbgddblfalahfaa
open Go Go.SL Go.RowKit
set_option linter.unusedVariables false
set_option linter.unusedSimpArgs false
theorem tA46p : aggB Try.prog 46 6 = true := by kernel_rfl
theorem tA48p : aggB Try.prog 48 7 = true := by kernel_rfl
theorem tF48_4p : fieldB Try.prog 48 4 5 = true := by kernel_rfl
theorem tF48_5p : fieldB Try.prog 48 5 6 = true := by kernel_rfl
theorem tMixp : Try.prog.follows .mixedOrders = true := by kernel_rfl
theorem tN48p : (Try.prog.info? 48).bind (·.zero) = some (Value.agg #[Value.string .empty, Value.string .empty, Value.int .i64 0, Value.int .i64 0, Value.int .i64 0, Value.int .i64 0, Value.slice none 0 0]) := by kernel_rfl
theorem tO25p : oneB Try.prog 25 = true := by kernel_rfl
theorem tO3p : oneB Try.prog 3 = true := by kernel_rfl
theorem tO5p : oneB Try.prog 5 = true := by kernel_rfl
theorem tR78p : arrB Try.prog 78 2 1 = true := by kernel_rfl
theorem tS25p : sliceB Try.prog 25 3 1 = true := by kernel_rfl
theorem tZ25p : (Try.prog.info? 25).map (·.size) = some 1 := by kernel_rfl
theorem tZ3p : (Try.prog.info? 3).map (·.size) = some 1 := by kernel_rfl
theorem tZ48p : (Try.prog.info? 48).map (·.size) = some 7 := by kernel_rfl

theorem alUse {σ : World} {F : List Res} {a : Option Addr} {c : Nat} {l : List Int} {b : Option Addr} {d : Nat} {m : List Int} {v : Value} {vals : List Int} (h : alP a c l b d m v vals) (h1 : Sl σ F encZ 1 (.slice a l.length c) l) (h2 : Sl σ F encZ 1 (.slice b m.length d) m) : Sl σ F encZ 1 v vals := by
  rcases h with ⟨e1, e2⟩ | ⟨e1, e2⟩ <;> rw [e1, e2] <;> assumption
theorem bothR_len {k : SK} {lo hi : Int} {val : Int → Int × Int} (h : hi - lo ≤ 1024) : (bothR k lo hi val).vals.length ≤ 1024 := by
  unfold bothR
  rw [if_neg (by omega)]
  split
  · simp [zeroR]
  · simp only [List.length_map, slots_len]; omega
theorem joinR_len {k : SK} {fr : Int} {l : List Int} {k' : SK} {fr' : Int} {m : List Int} (hl : l.length ≤ 1000) (hm : m.length ≤ 1000) (hd : max (fr + l.length) (fr' + m.length) - min fr fr' ≤ 1024) : (joinR k fr l k' fr' m).vals.length ≤ 1024 := by
  unfold joinR
  split
  · simp [zeroR]
  · split
    · unfold oneR; split
      · simp only; omega
      · split
        · simp only; omega
        · simp [zeroR]
    · split
      · simp [zeroR]
      · split
        · simp [zeroR]
        · exact bothR_len hd
set_option maxHeartbeats 2000000 in
set_option maxRecDepth 100000 in
theorem lawJoins_any {σ : World} {F : List Res} {a b : Option Addr} {c d : Nat} {l m : List Int} (x0 x1 x2 x3 x4 y0 y1 y2 y3 y4 c0 c1 : Int) (h : Sl σ F encY 1 (.slice a l.length c) l) (hb : ∀ x ∈ l, 0 ≤ x ∧ x ≤ 255) (h0 : 0 ≤ x0 ∧ x0 ≤ 255) (h1 : 0 ≤ x1 ∧ x1 ≤ 255) (h2 : 0 ≤ x2 ∧ x2 ≤ 255) (h3 : 0 ≤ x3 ∧ x3 ≤ 255) (h4 : 0 ≤ x4 ∧ x4 ≤ 255) (g : Sl σ F encY 1 (.slice b m.length d) m) (gb : ∀ x ∈ m, 0 ≤ x ∧ x ≤ 255) (g0 : 0 ≤ y0 ∧ y0 ≤ 255) (g1 : 0 ≤ y1 ∧ y1 ≤ 255) (g2 : 0 ≤ y2 ∧ y2 ≤ 255) (g3 : 0 ≤ y3 ∧ y3 ≤ 255) (g4 : 0 ≤ y4 ∧ y4 ≤ 255) (hc0 : 0 ≤ c0 ∧ c0 ≤ 255) (hc1 : 0 ≤ c1 ∧ c1 ≤ 255) :
    FnT Try.prog σ F 10 [.agg #[.int .u8 x0, .int .u8 x1, .int .u8 x2, .int .u8 x3, .int .u8 x4, .slice a l.length c], .agg #[.int .u8 y0, .int .u8 y1, .int .u8 y2, .int .u8 y3, .int .u8 y4, .slice b m.length d], .agg #[.int .u8 c0, .int .u8 c1]] [] (fun u ρ => u = .bool true ∧ ρ = []) := by
  refine fn_of 101 Try.func10 rfl Try.ntmps10 rfl ?_
  have hlt : (l.take 30).length ≤ 30 := by rw [List.length_take]; omega
  have hmt : (m.take 30).length ≤ 30 := by rw [List.length_take]; omega
  refine w_seq ?_
  refine w_region ?_
  refine wl_op [] rfl rfl rfl rfl (op_box (T := 46) (l := 3) rfl) ?_
  rintro _ _ ⟨b3, rfl, rfl⟩
  refine wl_op [] rfl rfl rfl rfl (op_box (T := 46) (l := 4) rfl) ?_
  rintro _ _ ⟨b4, rfl, rfl⟩
  refine wl_op [] rfl rfl rfl rfl (op_box (T := 78) (l := 5) rfl) ?_
  rintro _ _ ⟨b5, rfl, rfl⟩
  refine wl_det rfl rfl rfl (op_assign rfl) ?_
  refine wl_nil ?_
  refine st_tn ?_
  refine w_seq ?_
  refine w_drawW (fun β => [⟨21, [], [], [], noW (_), false, [], []⟩, ⟨22, [0], [], [], fun w => DetW _ _, false, [], []⟩, ⟨23, [], [], [], noW (_), false, [], []⟩, ⟨24, [2], [], [], fun w => DetW _ _, false, [], []⟩, ⟨7, [], [], [], fun w => DetW _ _, false, [], []⟩, ⟨8, [], [], [], fun w => DetW _ _, false, [], []⟩]) [] [3, 4] [⟨21, [], [], false, [], []⟩, ⟨22, [0], [], false, [], []⟩, ⟨23, [], [], false, [], []⟩, ⟨24, [2], [], false, [], []⟩, ⟨7, [], [], false, [], []⟩, ⟨8, [], [], false, [], []⟩] [[], [], [], [], [], []] [[], [], [], [], [], []] tMixp (fun _ => by rfl) (fun _ => by rfl) (by kernel_rfl) (by kernel_rfl) (by rfl) (by rfl)
      (fun β => ⟨.p rfl (by intro X; exact op_loadA rfl tA46p (Ent.lab (l := 3) rfl (says_cel 0)) (Nat.le_of_ble_eq_true rfl)),
      ⟨.px rfl (by intro X; rintro _ _ ⟨rfl, rfl⟩; refine OpT.mono (op_fn Try.func20 rfl rfl rfl (series_any 22 _ _ _ _ _ (by first | exact Sl.app (by assumption) _ | exact Sl.app (Sl.app (by assumption) _) _) (by assumption) (by assumption) (by assumption) (by assumption) (by assumption) (by assumption))) ?_; rintro _ _ ⟨a22, c22, rfl, rfl⟩; obtain ⟨w, rfl, rfl⟩ : ∃ w : Wt, w.a = a22 ∧ w.c = c22 := ⟨{ a := a22, c := c22 }, rfl, rfl⟩; exact ⟨w, rfl, rfl⟩),
      ⟨.p rfl (by intro X; exact op_loadA rfl tA46p (Ent.lab (l := 4) rfl (says_cel 0)) (Nat.le_of_ble_eq_true rfl)),
      ⟨.px rfl (by intro X; rintro _ _ ⟨rfl, rfl⟩; refine OpT.mono (op_fn Try.func20 rfl rfl rfl (series_any 24 _ _ _ _ _ (by first | exact Sl.app (by assumption) _ | exact Sl.app (Sl.app (by assumption) _) _) (by assumption) (by assumption) (by assumption) (by assumption) (by assumption) (by assumption))) ?_; rintro _ _ ⟨a24, c24, rfl, rfl⟩; obtain ⟨w, rfl, rfl⟩ : ∃ w : Wt, w.a = a24 ∧ w.c = c24 := ⟨{ a := a24, c := c24 }, rfl, rfl⟩; exact ⟨w, rfl, rfl⟩),
      ⟨.px rfl (by intro X; refine OpT.mono (op_alloc (l := 7) tN48p) ?_; rintro _ _ ⟨b7, rfl, rfl⟩; obtain ⟨w, rfl⟩ : ∃ w : Wt, w.b = b7 := ⟨{ b := b7 }, rfl⟩; exact ⟨w, rfl, rfl⟩),
      ⟨.px rfl (by intro X; refine OpT.mono (op_alloc (l := 8) tN48p) ?_; rintro _ _ ⟨b8, rfl, rfl⟩; obtain ⟨w, rfl⟩ : ∃ w : Wt, w.b = b8 := ⟨{ b := b8 }, rfl⟩; exact ⟨w, rfl, rfl⟩),
      trivial⟩⟩⟩⟩⟩⟩)
      (fun β β' => ⟨fun _ => by rfl, ⟨fun _ => by rfl, ⟨fun _ => by rfl, ⟨fun _ => by rfl, ⟨fun _ => by rfl, ⟨fun _ => by rfl, trivial⟩⟩⟩⟩⟩⟩) ?_
  intro β
  rintro _ _ ⟨rfl, rfl⟩ _ _ ⟨rfl, rfl⟩ _ _ ⟨rfl, rfl⟩ _ _ ⟨rfl, rfl⟩ _ _ ⟨rfl, rfl⟩ _ _ ⟨rfl, rfl⟩
  generalize (β 1).a = a22
  generalize (β 1).c = c22
  generalize (β 3).a = a24
  generalize (β 3).c = c24
  generalize (β 4).b = b7
  generalize (β 5).b = b8
  refine wl_norm (e' := [(5, _), (7, _), (8, _), (22, _), (24, _)]) (.cons rfl (.cons rfl (.cons rfl (.cons rfl (.cons rfl (.nil _)))))) (by dsimp only [cond_false, cond_true, List.nil_append, List.cons_append]) ?_
  refine wl_op0 [7] rfl rfl rfl (op_store rfl rfl tZ48p (by rfl) (by rfl) (by exact Nat.le_of_ble_eq_true rfl)) ?_
  rintro _ _ ⟨rfl, rfl⟩
  refine wl_op0 [8] rfl rfl rfl (op_store rfl rfl tZ48p (by rfl) (by rfl) (by exact Nat.le_of_ble_eq_true rfl)) ?_
  rintro _ _ ⟨rfl, rfl⟩
  refine wl_nil ?_
  refine st_tn ?_
  refine w_seq ?_
  generalize kG x0 x1 x2 x3 = k at *
  generalize kG y0 y1 y2 y3 = k' at *
  have hfx : 0 ≤ x4 % 40 ∧ x4 % 40 ≤ 40 := by omega
  have hfy : 0 ≤ y4 % 40 ∧ y4 % 40 ≤ 40 := by omega
  generalize x4 % 40 = fr at *
  generalize y4 % 40 = fr' at *
  generalize l.take 30 = L at *
  generalize m.take 30 = M at *
  have hJl := joinR_len (k := k) (fr := fr) (l := L) (k' := k') (fr' := fr') (m := M) (by omega) (by omega) (by omega)
  refine w_region ?_
  refine wl_det rfl rfl rfl (op_loadA rfl tA48p (Ent.lab (l := 7) rfl (says_cel 0)) (Nat.le_of_ble_eq_true rfl)) ?_
  refine wl_det rfl rfl rfl (op_loadA rfl tA48p (Ent.lab (l := 8) rfl (says_cel 0)) (Nat.le_of_ble_eq_true rfl)) ?_
  refine wl_op [] rfl rfl rfl rfl (op_fn Try.func38 rfl rfl rfl (join_any 28 _ _ _ _ (Sl.lab 22 rfl (by first | (simp [maxLen]; done) | (unfold maxLen; omega))) (Sl.lab 24 rfl (by first | (simp [maxLen]; done) | (unfold maxLen; omega))) (by omega) (by omega) (by omega) (by omega))) ?_
  rintro _ _ ⟨a28, c28, rfl, rfl⟩
  refine wl_det rfl rfl rfl (op_move rfl) ?_
  refine wl_det rfl rfl rfl (op_extract rfl rfl) ?_
  refine wl_det rfl rfl rfl (op_extract rfl rfl) ?_
  refine wl_op [] rfl rfl rfl rfl (op_alloc (l := 9) tN48p) ?_
  rintro _ _ ⟨b9, rfl, rfl⟩
  refine wl_op0 [9] rfl rfl rfl (op_store rfl rfl tZ48p (by rfl) (by rfl) (by exact Nat.le_of_ble_eq_true rfl)) ?_
  rintro _ _ ⟨rfl, rfl⟩
  refine wl_det rfl rfl rfl (op_assign rfl) ?_
  refine wl_nil ?_
  refine st_tn ?_
  refine w_seq ?_
  refine w_region ?_
  refine wl_det rfl rfl rfl (op_loadA rfl tA48p (Ent.lab (l := 7) rfl (says_cel 0)) (Nat.le_of_ble_eq_true rfl)) ?_
  refine wl_det rfl rfl rfl (op_loadA rfl tA48p (Ent.lab (l := 8) rfl (says_cel 0)) (Nat.le_of_ble_eq_true rfl)) ?_
  refine wl_op [] rfl rfl rfl rfl (op_fn Try.func39 rfl rfl rfl (ljoin_any 34 _ _ _ _ (Sl.lab 22 rfl (by first | (simp [maxLen]; done) | (unfold maxLen; omega))) (Sl.lab 24 rfl (by first | (simp [maxLen]; done) | (unfold maxLen; omega))) (by omega) (by omega) (by omega) (by omega) (by omega))) ?_
  rintro _ _ ⟨a34, c34, rfl, rfl⟩
  refine wl_det rfl rfl rfl (op_move rfl) ?_
  refine wl_det rfl rfl rfl (op_extract rfl rfl) ?_
  refine wl_det rfl rfl rfl (op_extract rfl rfl) ?_
  refine wl_op [] rfl rfl rfl rfl (op_alloc (l := 11) tN48p) ?_
  rintro _ _ ⟨b11, rfl, rfl⟩
  refine wl_op0 [11] rfl rfl rfl (op_store rfl rfl tZ48p (by rfl) (by rfl) (by exact Nat.le_of_ble_eq_true rfl)) ?_
  rintro _ _ ⟨rfl, rfl⟩
  refine wl_det rfl rfl rfl (op_assign rfl) ?_
  refine wl_nil ?_
  refine st_tn ?_
  refine w_seq ?_
  refine w_seq ?_
  refine w_region ?_
  refine wl_det rfl rfl rfl (op_fn Try.func16 rfl rfl rfl (known_any)) ?_
  refine wl_det rfl rfl rfl (op_not_t rfl) ?_
  refine wl_det rfl rfl rfl (op_move rfl) ?_
  refine wl_wanted_det rfl rfl rfl rfl rfl rfl rfl (op_move rfl) ?_
  refine wl_wanted_det rfl rfl rfl rfl rfl rfl rfl (op_move rfl) ?_
  refine wl_wanted_det rfl rfl rfl rfl rfl rfl rfl (op_val (v' := .bool false) (by simp) (op_neq rfl rfl)) ?_
  refine wl_det rfl rfl rfl (op_pick_f rfl rfl) ?_
  refine wl_det rfl rfl rfl (op_move rfl) ?_
  refine wl_wanted_det rfl rfl rfl rfl rfl rfl rfl (op_loadA rfl tA48p (Ent.lab (l := 9) rfl (says_cel 0)) (Nat.le_of_ble_eq_true rfl)) ?_
  refine wl_wanted_det rfl rfl rfl rfl rfl rfl rfl (op_loadA rfl tA48p (Ent.lab (l := 11) rfl (says_cel 0)) (Nat.le_of_ble_eq_true rfl)) ?_
  refine wl_wanted_det rfl rfl rfl rfl rfl rfl rfl (op_val (v' := .bool true) (by exact congrArg Value.bool (decide_eq_true ⟨sameK_refl _, rfl, rfl⟩)) (op_fn Try.func27 rfl rfl rfl (lsame_any _ _ _ _ (Sl.lab 28 rfl (by unfold maxLen; omega)) (Sl.labE 34 rfl (by unfold maxLen; omega) (fun h => alUse h (Sl.lab 22 rfl (by unfold maxLen; omega)) (Sl.lab 24 rfl (by unfold maxLen; omega))))))) ?_
  refine wl_wanted_det rfl rfl rfl rfl rfl rfl rfl (op_not_t rfl) ?_
  refine wl_det rfl rfl rfl (op_pick_f rfl rfl) ?_
  refine wl_nil ?_
  refine st_tn ?_
  refine w_cond_f (rfl) ?_
  refine w_skip ?_
  refine st_tn ?_
  refine w_seq ?_
  refine w_drawW (fun β => [⟨50, [], [], [], noW (_), false, [], []⟩, ⟨51, [], [], [], noW (_), false, [], []⟩, ⟨13, [], [], [], fun w => DetW _ _, true, [], []⟩, ⟨14, [], [], [], fun w => DetW _ _, false, [], []⟩, ⟨105, [0], [2], [], noW (_), false, [], []⟩]) [] [7] [⟨50, [], [], false, [], []⟩, ⟨51, [], [], false, [], []⟩, ⟨13, [], [], true, [], []⟩, ⟨14, [], [], false, [], []⟩, ⟨105, [0], [2], false, [], []⟩] [[], [], [], [], [2]] [[], [], [], [], []] tMixp (fun _ => by rfl) (fun _ => by rfl) (by kernel_rfl) (by kernel_rfl) (by rfl) (by rfl)
      (fun β => ⟨.p rfl (by intro X; exact op_loadA rfl tA48p (Ent.lab (l := 7) rfl (says_cel 0)) (Nat.le_of_ble_eq_true rfl)),
      ⟨.p rfl (by intro X; exact op_loadA rfl tA48p (Ent.lab (l := 7) rfl (says_cel 0)) (Nat.le_of_ble_eq_true rfl)),
      ⟨.px rfl (by intro X; refine OpT.mono (op_alloc (l := 13) tN48p) ?_; rintro _ _ ⟨b13, rfl, rfl⟩; obtain ⟨w, rfl⟩ : ∃ w : Wt, w.b = b13 := ⟨{ b := b13 }, rfl⟩; exact ⟨w, rfl, rfl⟩),
      ⟨.px rfl (by intro X; refine OpT.mono (op_alloc (l := 14) tN48p) ?_; rintro _ _ ⟨b14, rfl, rfl⟩; obtain ⟨w, rfl⟩ : ∃ w : Wt, w.b = b14 := ⟨{ b := b14 }, rfl⟩; exact ⟨w, rfl, rfl⟩),
      ⟨.p rfl (by intro X; rintro _ _ ⟨rfl, rfl⟩ _ _ ⟨rfl, rfl⟩; show OpT _ _ _ _ _ _ [(_, _)] _; exact op_store rfl rfl tZ48p (by rfl) (by rfl) (by exact Nat.le_of_ble_eq_true rfl)) (hu := by exact .inr fun _ _ h => h.1),
      trivial⟩⟩⟩⟩⟩)
      (fun β β' => ⟨fun _ => by rfl, ⟨fun _ => by rfl, ⟨fun _ => by rfl, ⟨fun _ => by rfl, ⟨fun h => by first | rfl | (simp only [h 2 (by decide)]), trivial⟩⟩⟩⟩⟩) ?_
  intro β
  rintro _ _ ⟨rfl, rfl⟩ _ _ ⟨rfl, rfl⟩ _ _ ⟨rfl, rfl⟩ _ _ ⟨rfl, rfl⟩ _ _ ⟨rfl, rfl⟩
  generalize (β 2).b = b13
  generalize (β 3).b = b14
  refine wl_norm (e' := [(5, _), (7, _), (13, _), (14, _), (51, _)]) (.cons rfl (.cons rfl (.cons rfl (.cons rfl (.cons rfl (.nil _)))))) (by dsimp only [cond_false, cond_true, List.nil_append, List.cons_append]) ?_
  refine wl_op0 [14] rfl rfl rfl (op_store rfl rfl tZ48p (by rfl) (by rfl) (by exact Nat.le_of_ble_eq_true rfl)) ?_
  rintro _ _ ⟨rfl, rfl⟩
  refine wl_nil ?_
  refine st_tn ?_
  refine w_seq ?_
  have hm0 := Int.emod_nonneg c0 (show (L.length : Int) + 1 ≠ 0 by omega)
  have hm1 := Int.emod_lt_of_pos c0 (show 0 < (L.length : Int) + 1 by omega)
  refine w_region ?_
  refine wl_det rfl rfl rfl (op_idxArr (i := 0) rfl rfl tR78p (Nat.le_of_ble_eq_true rfl)) ?_
  refine wl_det rfl rfl rfl (op_load1 rfl tO5p (Ent.lab (l := 5) rfl (says_cel 0))) ?_
  refine wl_det rfl rfl rfl (op_convI64 rfl (by rw [Try.underlying5]; rfl) Try.underlying3 (by omega)) ?_
  refine wl_det rfl rfl rfl (op_fieldAddr (off := 6) rfl tF48_5p) ?_
  refine wl_det rfl rfl rfl (op_load1 rfl tO25p (Ent.lab (l := 7) rfl (says_cel 6))) ?_
  refine wl_det rfl rfl rfl (op_lenT rfl tS25p (Sl.ent (Sl.lab 22 rfl (by first | (simp [maxLen]; done) | (unfold maxLen; omega))))) ?_
  refine wl_det rfl rfl rfl (op_add' rfl rfl (by omega)) ?_
  refine wl_det rfl rfl rfl (op_val (v' := .int .i64 ((c0 % ((L.length : Int) + 1)).toNat : Int)) (by congr 1; omega) (op_remN rfl rfl (by omega) (by omega))) ?_
  refine wl_det rfl rfl rfl (op_assign rfl) ?_
  refine wl_nil ?_
  refine st_tn ?_
  refine w_seq ?_
  generalize hN : (c0 % ((L.length : Int) + 1)).toNat = N
  have hNl : N ≤ L.length := by omega
  have hk0 := Int.emod_nonneg c1 (show (N : Int) + 1 ≠ 0 by omega)
  have hk1 := Int.emod_lt_of_pos c1 (show 0 < (N : Int) + 1 by omega)
  refine w_region ?_
  refine wl_det rfl rfl rfl (op_idxArr (i := 1) rfl rfl tR78p (Nat.le_of_ble_eq_true rfl)) ?_
  refine wl_det rfl rfl rfl (op_load1 rfl tO5p (Ent.lab (l := 5) rfl (says_cel 1))) ?_
  refine wl_det rfl rfl rfl (op_convI64 rfl (by rw [Try.underlying5]; rfl) Try.underlying3 (by omega)) ?_
  refine wl_det rfl rfl rfl (op_move rfl) ?_
  refine wl_det rfl rfl rfl (op_add' rfl rfl (by omega)) ?_
  refine wl_det rfl rfl rfl (op_val (v' := .int .i64 ((c1 % ((N : Int) + 1)).toNat : Int)) (by congr 1; omega) (op_remN rfl rfl (by omega) (by omega))) ?_
  refine wl_det rfl rfl rfl (op_assign rfl) ?_
  refine wl_nil ?_
  refine st_tn ?_
  refine w_seq ?_
  generalize hK : (c1 % ((N : Int) + 1)).toNat = K
  have hKN : K ≤ N := by omega
  have hl1 : ((L.take N).drop 0).length = N := by rw [List.length_drop, List.length_take]; omega
  have hl2 : ((L.take L.length).drop K).length = L.length - K := by rw [List.length_drop, List.length_take]; omega
  have hJ2 := joinR_len (k := k) (fr := fr + K) (l := (L.take L.length).drop K) (k' := k) (fr' := fr) (m := (L.take N).drop 0) (by omega) (by omega) (by omega)
  refine w_region ?_
  refine wl_det rfl rfl rfl (op_fieldAddr (off := 6) rfl tF48_5p) ?_
  refine wl_det rfl rfl rfl (op_load1 rfl tO25p (Ent.lab (l := 7) rfl (says_cel 6))) ?_
  refine wl_det rfl rfl rfl (op_move rfl) ?_
  refine wl_det rfl rfl rfl (op_val (v' := .slice (SL.sub a22 c22 0 1) ((L.take N).drop 0).length (c22 - 0)) (by rw [hl1]; rfl) (op_sliceR rfl rfl tS25p (Sl.lab 22 rfl (by first | (simp [maxLen]; done) | (unfold maxLen; omega))) (by omega))) ?_
  refine wl_det rfl rfl rfl (op_fieldAddr (off := 6) rfl tF48_5p) ?_
  refine wl_op0 [13] rfl rfl rfl (op_store rfl rfl tZ25p (by rfl) (by rfl) (by exact Nat.le_of_ble_eq_true rfl)) ?_
  rintro _ _ ⟨rfl, rfl⟩
  refine wl_nil ?_
  refine st_tn ?_
  refine w_seq ?_
  refine w_drawW (fun β => [⟨71, [], [], [], noW (_), false, [], []⟩, ⟨72, [0], [], [], noW (_), false, [], []⟩, ⟨73, [], [], [], noW (_), false, [], []⟩, ⟨74, [1, 2], [], [], noW (_), false, [], []⟩, ⟨75, [], [], [], noW (_), false, [], []⟩, ⟨76, [4], [], [], noW (_), false, [], []⟩, ⟨77, [], [], [], noW (_), false, [], []⟩, ⟨78, [5, 6], [], [], noW (_), false, [], []⟩, ⟨79, [], [], [], noW (_), false, [], []⟩, ⟨110, [8, 3], [], [(14, _)], noW (_), false, [], []⟩]) [14] [7, 16, 14] [⟨71, [], [], false, [], []⟩, ⟨72, [0], [], false, [], []⟩, ⟨73, [], [], false, [], []⟩, ⟨74, [1, 2], [], false, [], []⟩, ⟨75, [], [], false, [], []⟩, ⟨76, [4], [], false, [], []⟩, ⟨77, [], [], false, [], []⟩, ⟨78, [5, 6], [], false, [], []⟩, ⟨79, [], [], false, [], []⟩, ⟨110, [8, 3], [], false, [], []⟩] [[], [], [], [], [], [], [], [], [], []] [[], [], [], [], [], [], [], [], [], [(14, _)]] tMixp (fun _ => by rfl) (fun _ => by rfl) (by kernel_rfl) (by kernel_rfl) (by rfl) (by rfl)
      (fun β => ⟨.p rfl (by intro X; exact op_fieldAddr (off := 5) rfl tF48_4p),
      ⟨.p rfl (by intro X; rintro _ _ ⟨rfl, rfl⟩; exact op_load1 rfl tO3p (Ent.lab (l := 7) rfl (says_cel 5))),
      ⟨.p rfl (by intro X; exact op_move rfl),
      ⟨.p rfl (by intro X; rintro _ _ ⟨rfl, rfl⟩ _ _ ⟨rfl, rfl⟩; exact op_add' rfl rfl (by omega)),
      ⟨.p rfl (by intro X; exact op_fieldAddr (off := 6) rfl tF48_5p),
      ⟨.p rfl (by intro X; rintro _ _ ⟨rfl, rfl⟩; exact op_load1 rfl tO25p (Ent.lab (l := 7) rfl (says_cel 6))),
      ⟨.p rfl (by intro X; exact op_move rfl),
      ⟨.p rfl (by intro X; rintro _ _ ⟨rfl, rfl⟩ _ _ ⟨rfl, rfl⟩; exact op_val (v' := .slice (SL.sub a22 c22 K 1) ((L.take L.length).drop K).length (c22 - K)) (by rw [hl2]) (op_sliceL rfl rfl tS25p (Sl.lab 22 rfl (by first | (simp [maxLen]; done) | (unfold maxLen; omega))) (by omega))),
      ⟨.p rfl (by intro X; exact op_fieldAddr (off := 5) rfl tF48_4p),
      ⟨.p rfl (by intro X; rintro _ _ ⟨rfl, rfl⟩ _ _ ⟨rfl, rfl⟩; exact op_store rfl rfl tZ3p (by rfl) (by rfl) (by exact Nat.le_of_ble_eq_true rfl)) (hu := by exact .inr fun _ _ h => h.1),
      trivial⟩⟩⟩⟩⟩⟩⟩⟩⟩⟩)
      (fun β β' => ⟨fun _ => by rfl, ⟨fun _ => by rfl, ⟨fun _ => by rfl, ⟨fun _ => by rfl, ⟨fun _ => by rfl, ⟨fun _ => by rfl, ⟨fun _ => by rfl, ⟨fun _ => by rfl, ⟨fun _ => by rfl, ⟨fun _ => by rfl, trivial⟩⟩⟩⟩⟩⟩⟩⟩⟩⟩) ?_
  intro β
  rintro _ _ ⟨rfl, rfl⟩ _ _ ⟨rfl, rfl⟩ _ _ ⟨rfl, rfl⟩ _ _ ⟨rfl, rfl⟩ _ _ ⟨rfl, rfl⟩ _ _ ⟨rfl, rfl⟩ _ _ ⟨rfl, rfl⟩ _ _ ⟨rfl, rfl⟩ _ _ ⟨rfl, rfl⟩ _ _ ⟨rfl, rfl⟩
  refine wl_norm (e' := [(13, _), (14, _), (78, _)]) (.cons rfl (.cons rfl (.cons rfl (.nil _)))) (by dsimp only [cond_false, cond_true, List.nil_append, List.cons_append]) ?_
  refine wl_det rfl rfl rfl (op_fieldAddr (off := 6) rfl tF48_5p) ?_
  refine wl_op0 [14] rfl rfl rfl (op_store rfl rfl tZ25p (by rfl) (by rfl) (by exact Nat.le_of_ble_eq_true rfl)) ?_
  rintro _ _ ⟨rfl, rfl⟩
  refine wl_nil ?_
  refine st_tn ?_
  refine w_seq ?_
  refine w_region ?_
  refine wl_det rfl rfl rfl (op_loadA rfl tA48p (Ent.lab (l := 14) rfl (says_cel 0)) (Nat.le_of_ble_eq_true rfl)) ?_
  refine wl_det rfl rfl rfl (op_loadA rfl tA48p (Ent.lab (l := 13) rfl (says_cel 0)) (Nat.le_of_ble_eq_true rfl)) ?_
  refine wl_op [] rfl rfl rfl rfl (op_fn Try.func38 rfl rfl rfl (join_any 84 k (fr + K) k fr (Sl.sub2 (Sl.lab 22 rfl (by unfold maxLen; omega)) (by omega) (Nat.le_refl _)) (Sl.sub2 (Sl.lab 22 rfl (by unfold maxLen; omega)) (Nat.zero_le _) hNl) (by omega) (by omega) (by omega) (by omega))) ?_
  rintro _ _ ⟨a84, c84, rfl, rfl⟩
  refine wl_det rfl rfl rfl (op_move rfl) ?_
  refine wl_det rfl rfl rfl (op_extract rfl rfl) ?_
  refine wl_det rfl rfl rfl (op_extract rfl rfl) ?_
  refine wl_op [] rfl rfl rfl rfl (op_alloc (l := 17) tN48p) ?_
  rintro _ _ ⟨b17, rfl, rfl⟩
  refine wl_op0 [17] rfl rfl rfl (op_store rfl rfl tZ48p (by rfl) (by rfl) (by exact Nat.le_of_ble_eq_true rfl)) ?_
  rintro _ _ ⟨rfl, rfl⟩
  refine wl_det rfl rfl rfl (op_assign rfl) ?_
  refine wl_nil ?_
  refine st_tn ?_
  refine w_seq ?_
  refine w_region ?_
  refine wl_det rfl rfl rfl (op_loadA rfl tA48p (Ent.lab (l := 14) rfl (says_cel 0)) (Nat.le_of_ble_eq_true rfl)) ?_
  refine wl_det rfl rfl rfl (op_loadA rfl tA48p (Ent.lab (l := 13) rfl (says_cel 0)) (Nat.le_of_ble_eq_true rfl)) ?_
  refine wl_op [] rfl rfl rfl rfl (op_fn Try.func39 rfl rfl rfl (ljoin_any 90 k (fr + K) k fr (Sl.sub2 (Sl.lab 22 rfl (by unfold maxLen; omega)) (by omega) (Nat.le_refl _)) (Sl.sub2 (Sl.lab 22 rfl (by unfold maxLen; omega)) (Nat.zero_le _) hNl) (by omega) (by omega) (by omega) (by omega) (by omega))) ?_
  rintro _ _ ⟨a90, c90, rfl, rfl⟩
  refine wl_det rfl rfl rfl (op_move rfl) ?_
  refine wl_det rfl rfl rfl (op_extract rfl rfl) ?_
  refine wl_det rfl rfl rfl (op_extract rfl rfl) ?_
  refine wl_op [] rfl rfl rfl rfl (op_alloc (l := 19) tN48p) ?_
  rintro _ _ ⟨b19, rfl, rfl⟩
  refine wl_op0 [19] rfl rfl rfl (op_store rfl rfl tZ48p (by rfl) (by rfl) (by exact Nat.le_of_ble_eq_true rfl)) ?_
  rintro _ _ ⟨rfl, rfl⟩
  refine wl_det rfl rfl rfl (op_assign rfl) ?_
  refine wl_nil ?_
  refine st_tn ?_
  refine w_seq ?_
  refine w_region ?_
  refine wl_det rfl rfl rfl (op_move rfl) ?_
  refine wl_det rfl rfl rfl (op_move rfl) ?_
  refine wl_det rfl rfl rfl (op_val (v' := .bool true) (by simp) (op_eql rfl rfl)) ?_
  refine wl_det rfl rfl rfl (op_move rfl) ?_
  refine wl_wanted_det rfl rfl rfl rfl rfl rfl rfl (op_loadA rfl tA48p (Ent.lab (l := 17) rfl (says_cel 0)) (Nat.le_of_ble_eq_true rfl)) ?_
  refine wl_wanted_det rfl rfl rfl rfl rfl rfl rfl (op_loadA rfl tA48p (Ent.lab (l := 19) rfl (says_cel 0)) (Nat.le_of_ble_eq_true rfl)) ?_
  refine wl_wanted_det rfl rfl rfl rfl rfl rfl rfl (op_val (v' := .bool true) (by exact congrArg Value.bool (decide_eq_true ⟨sameK_refl _, rfl, rfl⟩)) (op_fn Try.func27 rfl rfl rfl (lsame_any _ _ _ _ (Sl.lab 84 rfl (by unfold maxLen; omega)) (Sl.labE 90 rfl (by unfold maxLen; omega) (fun h => alUse h (Sl.sub2 (Sl.lab 22 rfl (by unfold maxLen; omega)) (by omega) (Nat.le_refl _)) (Sl.sub2 (Sl.lab 22 rfl (by unfold maxLen; omega)) (Nat.zero_le _) hNl)))))) ?_
  refine wl_det rfl rfl rfl (op_pick_t rfl rfl) ?_
  refine wl_det rfl rfl rfl (op_assign rfl) ?_
  refine wl_nil ?_
  refine st_tn ?_
  refine w_ret ?_
  refine st_ret (vs := [_]) [] Try.results10 ⟨rfl, trivial⟩ rfl ?_
  refine ⟨_, rfl, ?_⟩
  exact ⟨rfl, rfl⟩

end Go.Proofs.Ytbgddblfalahfaa
