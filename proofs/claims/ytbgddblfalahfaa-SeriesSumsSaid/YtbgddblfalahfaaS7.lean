/- Contracts of the law's helper Series, of series.Rates, and the law SeriesRates (layer 43). Conditions: none. -/
import Derived.Test.YtbgddblfalahfaaS6
namespace Go.Proofs.Ytbgddblfalahfaa
open Go Go.SL Go.RowKit
set_option linter.unusedVariables false
set_option linter.unusedSimpArgs false
theorem tA46g : aggB Try.prog 46 6 = true := by kernel_rfl
theorem tA48g : aggB Try.prog 48 7 = true := by kernel_rfl
theorem tB48g : placesB Try.prog 48 = some ([(0, 1), (1, 1), (2, 1), (3, 2), (5, 1), (6, 1)], [Value.string .empty, Value.string .empty, Value.int .i64 0, Value.int .i64 0, Value.int .i64 0, Value.int .i64 0, Value.slice none 0 0]) := by kernel_rfl
theorem tF46_0g : fieldB Try.prog 46 0 0 = true := by kernel_rfl
theorem tF46_1g : fieldB Try.prog 46 1 1 = true := by kernel_rfl
theorem tF46_2g : fieldB Try.prog 46 2 2 = true := by kernel_rfl
theorem tF46_3g : fieldB Try.prog 46 3 3 = true := by kernel_rfl
theorem tF46_4g : fieldB Try.prog 46 4 4 = true := by kernel_rfl
theorem tF46_5g : fieldB Try.prog 46 5 5 = true := by kernel_rfl
theorem tF48_0g : fieldB Try.prog 48 0 0 = true := by kernel_rfl
theorem tF48_1g : fieldB Try.prog 48 1 1 = true := by kernel_rfl
theorem tF48_2g : fieldB Try.prog 48 2 2 = true := by kernel_rfl
theorem tF48_3g : fieldB Try.prog 48 3 3 = true := by kernel_rfl
theorem tF48_4g : fieldB Try.prog 48 4 5 = true := by kernel_rfl
theorem tF48_5g : fieldB Try.prog 48 5 6 = true := by kernel_rfl
theorem tL25_1g : zerosB Try.prog 25 3 1 1 = some [Value.int .i64 0] := by kernel_rfl
theorem tL93_4g : zerosB Try.prog 93 9 1 4 = some [Value.string .empty, Value.string .empty, Value.string .empty, Value.string .empty] := by kernel_rfl
theorem tMixg : Try.prog.follows .mixedOrders = true := by kernel_rfl
theorem tN48g : (Try.prog.info? 48).bind (·.zero) = some (Value.agg #[Value.string .empty, Value.string .empty, Value.int .i64 0, Value.int .i64 0, Value.int .i64 0, Value.int .i64 0, Value.slice none 0 0]) := by kernel_rfl
theorem tO22g : oneB Try.prog 22 = true := by kernel_rfl
theorem tO25g : oneB Try.prog 25 = true := by kernel_rfl
theorem tO3g : oneB Try.prog 3 = true := by kernel_rfl
theorem tO5g : oneB Try.prog 5 = true := by kernel_rfl
theorem tO9g : oneB Try.prog 9 = true := by kernel_rfl
theorem tP25g : appB Try.prog 25 3 1 8 = true := by kernel_rfl
theorem tS25g : sliceB Try.prog 25 3 1 = true := by kernel_rfl
theorem tS93g : sliceB Try.prog 93 9 1 = true := by kernel_rfl
theorem tZ24g : (Try.prog.info? 24).map (·.size) = some 2 := by kernel_rfl
theorem tZ25g : (Try.prog.info? 25).map (·.size) = some 1 := by kernel_rfl
theorem tZ48g : (Try.prog.info? 48).map (·.size) = some 7 := by kernel_rfl

def svcL : List ByteArray := [⟨#[97, 112, 105]⟩, ⟨#[100, 98]⟩, ⟨#[119, 101, 98]⟩, ⟨#[99, 97, 99, 104, 101]⟩]
def opL : List ByteArray := [⟨#[]⟩, ⟨#[103, 101, 116]⟩, ⟨#[112, 117, 116]⟩, ⟨#[108, 105, 115, 116]⟩]
theorem svc_get (x : Int) : svcL[(x % 4).toNat]? = some (svcL.getD (x % 4).toNat .empty) := by
  rw [List.getD_eq_getElem?_getD, List.getElem?_eq_getElem (by simp [svcL]; omega)]; rfl
theorem op_get (x : Int) : opL[(x % 4).toNat]? = some (opL.getD (x % 4).toNat .empty) := by
  rw [List.getD_eq_getElem?_getD, List.getElem?_eq_getElem (by simp [opL]; omega)]; rfl
/-- What a drawn graph measures. -/
def kG (a b c d : Int) : SK := ⟨svcL.getD (a % 4).toNat .empty, opL.getD (b % 4).toNat .empty, 1 + c % 3, if 1 + c % 3 = 3 then (mkF (1 + d % 10) 10).1 else 0, if 1 + c % 3 = 3 then (mkF (1 + d % 10) 10).2.1 else 0⟩
-- CALL sleuth/fraction.Make mk_any _ _ (by omega) (by omega)
set_option maxHeartbeats 2000000 in
set_option maxRecDepth 100000 in
theorem series_any {σ : World} {F : List Res} {a : Option Addr} {c : Nat} {l : List Int} (lab : Nat) (x0 x1 x2 x3 x4 : Int) (h : Sl σ F encY 1 (.slice a l.length c) l) (hb : ∀ x ∈ l, 0 ≤ x ∧ x ≤ 255) (h0 : 0 ≤ x0 ∧ x0 ≤ 255) (h1 : 0 ≤ x1 ∧ x1 ≤ 255) (h2 : 0 ≤ x2 ∧ x2 ≤ 255) (h3 : 0 ≤ x3 ∧ x3 ≤ 255) (h4 : 0 ≤ x4 ∧ x4 ≤ 255) :
    FnT Try.prog σ F 20 [.agg #[.int .u8 x0, .int .u8 x1, .int .u8 x2, .int .u8 x3, .int .u8 x4, .slice a l.length c]] [] (fun u ρ => ∃ a c, u = sr (kG x0 x1 x2 x3) (x4 % 40) (.slice a (l.take 30).length c) ∧ ρ = [(lab, slW 3 encZ 1 (.slice a (l.take 30).length c) (l.take 30))]) := by
  refine fn_of 44 Try.func20 rfl Try.ntmps20 rfl ?_
  have htl : (l.take 30).length ≤ 30 := by rw [List.length_take]; omega
  refine w_seq ?_
  refine w_region ?_
  refine wl_op [] rfl rfl rfl rfl (op_box (T := 46) (l := 1) rfl) ?_
  rintro _ _ ⟨b1, rfl, rfl⟩
  refine wl_op [] rfl rfl rfl rfl (op_alloc (l := 2) tN48g) ?_
  rintro _ _ ⟨b2, rfl, rfl⟩
  refine wl_nil ?_
  refine st_tn ?_
  refine w_seq ?_
  refine w_drawW (fun β => [⟨4, [], [], [], fun w => DetW _ _, false, [], []⟩, ⟨5, [], [], [], noW (_), false, [], []⟩, ⟨6, [1], [], [], noW (_), false, [], []⟩, ⟨7, [2], [], [], noW (_), false, [], []⟩, ⟨8, [0, 3], [], [], noW (_), false, [], []⟩, ⟨9, [4, 0], [], [], noW (_), false, [], []⟩, ⟨10, [], [], [], fun w => DetW _ _, false, [], []⟩, ⟨11, [], [], [], noW (_), false, [], []⟩, ⟨12, [7], [], [], noW (_), false, [], []⟩, ⟨13, [8], [], [], noW (_), false, [], []⟩, ⟨14, [6, 9], [], [], noW (_), false, [], []⟩, ⟨15, [10, 6], [], [], noW (_), false, [], []⟩, ⟨16, [], [], [], noW (_), false, [], []⟩, ⟨17, [12], [], [], noW (_), false, [], []⟩, ⟨18, [13], [], [], noW (_), false, [], []⟩, ⟨19, [14], [], [], noW (_), false, [], []⟩, ⟨20, [15], [], [], noW (_), false, [], []⟩, ⟨21, [], [], [], noW (_), false, [], []⟩, ⟨22, [17], [], [], noW (_), false, [], []⟩, ⟨23, [18], [], [], noW (_), false, [], []⟩, ⟨24, [19], [], [], noW (_), false, [], []⟩, ⟨25, [5, 11, 16, 20], [], [], noW (_), false, [], []⟩, ⟨3, [], [], [], fun w => DetW _ _, false, [], []⟩]) [] [1] [⟨4, [], [], false, [], []⟩, ⟨5, [], [], false, [], []⟩, ⟨6, [1], [], false, [], []⟩, ⟨7, [2], [], false, [], []⟩, ⟨8, [0, 3], [], false, [], []⟩, ⟨9, [4, 0], [], false, [], []⟩, ⟨10, [], [], false, [], []⟩, ⟨11, [], [], false, [], []⟩, ⟨12, [7], [], false, [], []⟩, ⟨13, [8], [], false, [], []⟩, ⟨14, [6, 9], [], false, [], []⟩, ⟨15, [10, 6], [], false, [], []⟩, ⟨16, [], [], false, [], []⟩, ⟨17, [12], [], false, [], []⟩, ⟨18, [13], [], false, [], []⟩, ⟨19, [14], [], false, [], []⟩, ⟨20, [15], [], false, [], []⟩, ⟨21, [], [], false, [], []⟩, ⟨22, [17], [], false, [], []⟩, ⟨23, [18], [], false, [], []⟩, ⟨24, [19], [], false, [], []⟩, ⟨25, [5, 11, 16, 20], [], false, [], []⟩, ⟨3, [], [], false, [], []⟩] [[], [], [], [], [0], [0], [], [], [], [], [6], [6], [], [], [], [], [], [], [], [], [], [0, 6], []] [[], [], [], [], [], [], [], [], [], [], [], [], [], [], [], [], [], [], [], [], [], [], []] tMixg (fun _ => by rfl) (fun _ => by rfl) (by kernel_rfl) (by kernel_rfl) (by rfl) (by rfl)
      (fun β => ⟨.px rfl (by intro X; refine OpT.mono (op_buildSlice (enc := SL.encS) (l := svcL) (lab := 4) tL93_4g rfl rfl (fun _ => rfl) rfl) ?_; rintro _ _ ⟨a4, c4, rfl, rfl⟩; obtain ⟨w, rfl, rfl⟩ : ∃ w : Wt, w.a = a4 ∧ w.c = c4 := ⟨{ a := a4, c := c4 }, rfl, rfl⟩; exact ⟨w, rfl, rfl⟩),
      ⟨.p rfl (by intro X; exact op_fieldAddr (off := 0) rfl tF46_0g),
      ⟨.p rfl (by intro X; rintro _ _ ⟨rfl, rfl⟩; exact op_load1 rfl tO5g (Ent.lab (l := 1) rfl (says_cel 0))),
      ⟨.p rfl (by intro X; rintro _ _ ⟨rfl, rfl⟩; exact op_remN rfl rfl (by omega) (by omega)),
      ⟨.p rfl (by intro X; rintro _ _ ⟨rfl, rfl⟩ _ _ ⟨rfl, rfl⟩; exact op_idxK rfl rfl tS93g (Sl.lab 4 rfl (by simp [maxLen, svcL, opL])) (by omega) (by simp [svcL, opL]; omega)),
      ⟨.p rfl (by intro X; rintro _ _ ⟨rfl, rfl⟩ _ _ ⟨rfl, rfl⟩; exact op_ldx rfl tO9g (Sl.lab 4 rfl (by simp [maxLen, svcL])) (svc_get _) rfl),
      ⟨.px rfl (by intro X; refine OpT.mono (op_buildSlice (enc := SL.encS) (l := opL) (lab := 10) tL93_4g rfl rfl (fun _ => rfl) rfl) ?_; rintro _ _ ⟨a10, c10, rfl, rfl⟩; obtain ⟨w, rfl, rfl⟩ : ∃ w : Wt, w.a = a10 ∧ w.c = c10 := ⟨{ a := a10, c := c10 }, rfl, rfl⟩; exact ⟨w, rfl, rfl⟩),
      ⟨.p rfl (by intro X; exact op_fieldAddr (off := 1) rfl tF46_1g),
      ⟨.p rfl (by intro X; rintro _ _ ⟨rfl, rfl⟩; exact op_load1 rfl tO5g (Ent.lab (l := 1) rfl (says_cel 1))),
      ⟨.p rfl (by intro X; rintro _ _ ⟨rfl, rfl⟩; exact op_remN rfl rfl (by omega) (by omega)),
      ⟨.p rfl (by intro X; rintro _ _ ⟨rfl, rfl⟩ _ _ ⟨rfl, rfl⟩; exact op_idxK rfl rfl tS93g (Sl.lab 10 rfl (by simp [maxLen, svcL, opL])) (by omega) (by simp [svcL, opL]; omega)),
      ⟨.p rfl (by intro X; rintro _ _ ⟨rfl, rfl⟩ _ _ ⟨rfl, rfl⟩; exact op_ldx rfl tO9g (Sl.lab 10 rfl (by simp [maxLen, opL])) (op_get _) rfl),
      ⟨.p rfl (by intro X; exact op_fieldAddr (off := 2) rfl tF46_2g),
      ⟨.p rfl (by intro X; rintro _ _ ⟨rfl, rfl⟩; exact op_load1 rfl tO5g (Ent.lab (l := 1) rfl (says_cel 2))),
      ⟨.p rfl (by intro X; rintro _ _ ⟨rfl, rfl⟩; exact op_remN rfl rfl (by omega) (by omega)),
      ⟨.p rfl (by intro X; rintro _ _ ⟨rfl, rfl⟩; exact op_convI64 rfl (by rw [Try.underlying5]; rfl) Try.underlying3 (by omega)),
      ⟨.p rfl (by intro X; rintro _ _ ⟨rfl, rfl⟩; exact op_add' rfl rfl (by omega)),
      ⟨.p rfl (by intro X; exact op_fieldAddr (off := 4) rfl tF46_4g),
      ⟨.p rfl (by intro X; rintro _ _ ⟨rfl, rfl⟩; exact op_load1 rfl tO5g (Ent.lab (l := 1) rfl (says_cel 4))),
      ⟨.p rfl (by intro X; rintro _ _ ⟨rfl, rfl⟩; exact op_remN rfl rfl (by omega) (by omega)),
      ⟨.p rfl (by intro X; rintro _ _ ⟨rfl, rfl⟩; exact op_convI64 rfl (by rw [Try.underlying5]; rfl) Try.underlying3 (by omega)),
      ⟨.p rfl (by intro X; rintro _ _ ⟨rfl, rfl⟩ _ _ ⟨rfl, rfl⟩ _ _ ⟨rfl, rfl⟩ _ _ ⟨rfl, rfl⟩; exact op_build tB48g rfl rfl),
      ⟨.px rfl (by intro X; refine OpT.mono (op_alloc (l := 3) tN48g) ?_; rintro _ _ ⟨b3, rfl, rfl⟩; obtain ⟨w, rfl⟩ : ∃ w : Wt, w.b = b3 := ⟨{ b := b3 }, rfl⟩; exact ⟨w, rfl, rfl⟩),
      trivial⟩⟩⟩⟩⟩⟩⟩⟩⟩⟩⟩⟩⟩⟩⟩⟩⟩⟩⟩⟩⟩⟩⟩)
      (fun β β' => ⟨fun _ => by rfl, ⟨fun _ => by rfl, ⟨fun _ => by rfl, ⟨fun _ => by rfl, ⟨fun h => by first | rfl | (simp only [h 0 (by decide)]), ⟨fun h => by first | rfl | (simp only [h 0 (by decide)]), ⟨fun _ => by rfl, ⟨fun _ => by rfl, ⟨fun _ => by rfl, ⟨fun _ => by rfl, ⟨fun h => by first | rfl | (simp only [h 6 (by decide)]), ⟨fun h => by first | rfl | (simp only [h 6 (by decide)]), ⟨fun _ => by rfl, ⟨fun _ => by rfl, ⟨fun _ => by rfl, ⟨fun _ => by rfl, ⟨fun _ => by rfl, ⟨fun _ => by rfl, ⟨fun _ => by rfl, ⟨fun _ => by rfl, ⟨fun _ => by rfl, ⟨fun h => by first | rfl | (simp only [h 0 (by decide), h 6 (by decide)]), ⟨fun _ => by rfl, trivial⟩⟩⟩⟩⟩⟩⟩⟩⟩⟩⟩⟩⟩⟩⟩⟩⟩⟩⟩⟩⟩⟩⟩) ?_
  intro β
  rintro _ _ ⟨rfl, rfl⟩ _ _ ⟨rfl, rfl⟩ _ _ ⟨rfl, rfl⟩ _ _ ⟨rfl, rfl⟩ _ _ ⟨rfl, rfl⟩ _ _ ⟨rfl, rfl⟩ _ _ ⟨rfl, rfl⟩ _ _ ⟨rfl, rfl⟩ _ _ ⟨rfl, rfl⟩ _ _ ⟨rfl, rfl⟩ _ _ ⟨rfl, rfl⟩ _ _ ⟨rfl, rfl⟩ _ _ ⟨rfl, rfl⟩ _ _ ⟨rfl, rfl⟩ _ _ ⟨rfl, rfl⟩ _ _ ⟨rfl, rfl⟩ _ _ ⟨rfl, rfl⟩ _ _ ⟨rfl, rfl⟩ _ _ ⟨rfl, rfl⟩ _ _ ⟨rfl, rfl⟩ _ _ ⟨rfl, rfl⟩ _ _ ⟨rfl, rfl⟩ _ _ ⟨rfl, rfl⟩
  generalize (β 0).a = a4
  generalize (β 0).c = c4
  generalize (β 6).a = a10
  generalize (β 6).c = c10
  generalize (β 22).b = b3
  refine wl_norm (e' := [(1, _), (2, _), (3, _), (25, _)]) (.cons rfl (.cons rfl (.cons rfl (.cons rfl (.nil _))))) (by dsimp only [cond_false, cond_true, List.nil_append, List.cons_append]) ?_
  refine wl_op0 [3] rfl rfl rfl (op_store rfl rfl tZ48g (by rfl) (by rfl) (by exact Nat.le_of_ble_eq_true rfl)) ?_
  rintro _ _ ⟨rfl, rfl⟩
  refine wl_nil ?_
  refine st_tn ?_
  refine w_seq ?_
  refine w_seq ?_
  refine w_cutL [(28, .bool (decide (1 + x2 % 3 = 3)))] [1, 2, 3] [1, 2, 4, 10, 3] rfl (fun K' hK => ?_) ?_
  · -- cut r2
    refine w_region ?_
    refine wl_det rfl rfl rfl (op_fieldAddr (off := 2) rfl tF48_2g) ?_
    refine wl_det rfl rfl rfl (op_load1 rfl tO3g (Ent.lab (l := 3) rfl (says_cel 2))) ?_
    refine wl_det rfl rfl rfl (op_eql rfl rfl) ?_
    refine wl_nil ?_
    refine st_tn ?_
    exact cut_done (L' := [1, 2, 4, 10, 3]) hK (by intro q hq; simp only [List.mem_cons, List.not_mem_nil, or_false] at hq; subst hq; all_goals first | rfl | (show some _ = some _; simp [*]; done)) (by rfl) rfl rfl
  · -- behind r2
    show W _ _ _ _ _ [(28, _), (1, _), (2, _), (3, _)] [(1, _), (2, _), (4, _), (10, _), (3, _)] _
    refine w_cond_d rfl (fun hc28 => ?_) (fun hc28 => ?_)
    · -- c28.t
      refine w_region ?_
      refine wl_det rfl rfl rfl (op_fieldAddr (off := 3) rfl tF46_3g) ?_
      refine wl_det rfl rfl rfl (op_load1 rfl tO5g (Ent.lab (l := 1) rfl (says_cel 3))) ?_
      refine wl_det rfl rfl rfl (op_remN rfl rfl (by omega) (by omega)) ?_
      refine wl_det rfl rfl rfl (op_convI64 rfl (by rw [Try.underlying5]; rfl) Try.underlying3 (by omega)) ?_
      refine wl_det rfl rfl rfl (op_add' rfl rfl (by omega)) ?_
      refine wl_det rfl rfl rfl (op_fn Try.func54 rfl rfl rfl (mk_any _ _ (by omega) (by omega))) ?_
      refine wl_det rfl rfl rfl (op_move rfl) ?_
      refine wl_det rfl rfl rfl (op_extract rfl rfl) ?_
      refine wl_det rfl rfl rfl (op_extract rfl rfl) ?_
      refine wl_det rfl rfl rfl (op_fieldAddr (off := 3) rfl tF48_3g) ?_
      refine wl_op0 [3] rfl rfl rfl (op_store rfl rfl tZ24g (by rfl) (by rfl) (by exact Nat.le_of_ble_eq_true rfl)) ?_
      rintro _ _ ⟨rfl, rfl⟩
      refine wl_nil ?_
      refine st_tn ?_
      refine w_seq ?_
      refine w_region ?_
      refine wl_det rfl rfl rfl (op_fieldAddr (off := 5) rfl tF46_5g) ?_
      refine wl_det rfl rfl rfl (op_load1 rfl tO22g (Ent.lab (l := 1) rfl (says_cel 5))) ?_
      refine wl_op [] rfl rfl rfl rfl (op_fn Try.func14 rfl rfl rfl (points_any 41 (by first | exact Sl.app (by assumption) _ | exact Sl.app (Sl.app (by assumption) _) _) (by assumption))) ?_
      rintro _ _ ⟨a41, c41, rfl, rfl⟩
      refine wl_det rfl rfl rfl (op_fieldAddr (off := 6) rfl tF48_5g) ?_
      refine wl_op0 [3] rfl rfl rfl (op_store rfl rfl tZ25g (by rfl) (by rfl) (by exact Nat.le_of_ble_eq_true rfl)) ?_
      rintro _ _ ⟨rfl, rfl⟩
      refine wl_nil ?_
      refine st_tn ?_
      refine w_seq ?_
      refine w_region ?_
      refine wl_det rfl rfl rfl (op_loadA rfl tA48g (Ent.lab (l := 3) rfl (says_cel 0)) (Nat.le_of_ble_eq_true rfl)) ?_
      refine wl_op0 [2] rfl rfl rfl (op_store rfl rfl tZ48g (by rfl) (by rfl) (by exact Nat.le_of_ble_eq_true rfl)) ?_
      rintro _ _ ⟨rfl, rfl⟩
      refine wl_nil ?_
      refine st_tn ?_
      refine w_ret ?_
      refine st_ret (vs := [_]) [41] Try.results20 ⟨⟨_, rfl, Ent.mono (Ent.lab (l := 2) rfl (says_cel 0)) (fun _ h => run_load_agg tA48g h (Nat.le_of_ble_eq_true rfl))⟩, trivial⟩ rfl ?_
      refine ⟨[(lab, _)], rfl, ?_⟩
      first | (have hk : kG x0 x1 x2 x3 = ⟨svcL.getD (x0 % 4).toNat .empty, opL.getD (x1 % 4).toNat .empty, 1 + x2 % 3, (mkF (1 + x3 % 10) 10).1, (mkF (1 + x3 % 10) 10).2.1⟩ := by { unfold kG; rw [if_pos hc28, if_pos hc28] }; rw [hk]; exact ⟨_, _, rfl, rfl⟩) | (have hk : kG x0 x1 x2 x3 = ⟨svcL.getD (x0 % 4).toNat .empty, opL.getD (x1 % 4).toNat .empty, 1 + x2 % 3, 0, 0⟩ := by { unfold kG; rw [if_neg hc28, if_neg hc28] }; rw [hk]; exact ⟨_, _, rfl, rfl⟩)
    · -- c28.f
      refine w_skip ?_
      refine st_tn ?_
      refine w_seq ?_
      refine w_region ?_
      refine wl_det rfl rfl rfl (op_fieldAddr (off := 5) rfl tF46_5g) ?_
      refine wl_det rfl rfl rfl (op_load1 rfl tO22g (Ent.lab (l := 1) rfl (says_cel 5))) ?_
      refine wl_op [] rfl rfl rfl rfl (op_fn Try.func14 rfl rfl rfl (points_any 41 (by first | exact Sl.app (by assumption) _ | exact Sl.app (Sl.app (by assumption) _) _) (by assumption))) ?_
      rintro _ _ ⟨a41, c41, rfl, rfl⟩
      refine wl_det rfl rfl rfl (op_fieldAddr (off := 6) rfl tF48_5g) ?_
      refine wl_op0 [3] rfl rfl rfl (op_store rfl rfl tZ25g (by rfl) (by rfl) (by exact Nat.le_of_ble_eq_true rfl)) ?_
      rintro _ _ ⟨rfl, rfl⟩
      refine wl_nil ?_
      refine st_tn ?_
      refine w_seq ?_
      refine w_region ?_
      refine wl_det rfl rfl rfl (op_loadA rfl tA48g (Ent.lab (l := 3) rfl (says_cel 0)) (Nat.le_of_ble_eq_true rfl)) ?_
      refine wl_op0 [2] rfl rfl rfl (op_store rfl rfl tZ48g (by rfl) (by rfl) (by exact Nat.le_of_ble_eq_true rfl)) ?_
      rintro _ _ ⟨rfl, rfl⟩
      refine wl_nil ?_
      refine st_tn ?_
      refine w_ret ?_
      refine st_ret (vs := [_]) [41] Try.results20 ⟨⟨_, rfl, Ent.mono (Ent.lab (l := 2) rfl (says_cel 0)) (fun _ h => run_load_agg tA48g h (Nat.le_of_ble_eq_true rfl))⟩, trivial⟩ rfl ?_
      refine ⟨[(lab, _)], rfl, ?_⟩
      first | (have hk : kG x0 x1 x2 x3 = ⟨svcL.getD (x0 % 4).toNat .empty, opL.getD (x1 % 4).toNat .empty, 1 + x2 % 3, (mkF (1 + x3 % 10) 10).1, (mkF (1 + x3 % 10) 10).2.1⟩ := by { unfold kG; rw [if_pos hc28, if_pos hc28] }; rw [hk]; exact ⟨_, _, rfl, rfl⟩) | (have hk : kG x0 x1 x2 x3 = ⟨svcL.getD (x0 % 4).toNat .empty, opL.getD (x1 % 4).toNat .empty, 1 + x2 % 3, 0, 0⟩ := by { unfold kG; rw [if_neg hc28, if_neg hc28] }; rw [hk]; exact ⟨_, _, rfl, rfl⟩)

def rateOf (p : Int × Int) : Int := p.1 * 1000000 / max 1 p.2
/-- The error of Rates. -/
def ratesE (k : SK) (fr : Int) (l : List Int) (k' : SK) (fr' : Int) (m : List Int) : Int :=
  if k.met ≠ 2 ∨ k'.met ≠ 1 then 12 else if k.svc ≠ k'.svc ∨ k.op ≠ k'.op ∨ fr ≠ fr' ∨ l.length ≠ m.length then 17 else if (l.zip m).any (fun p => decide (p.1 > p.2)) then 20 else 0
theorem zip_get {l m : List Int} {i : Nat} {x y : Int} (hx : l[i]? = some x) (hy : m[i]? = some y) : (l.zip m)[i]? = some (x, y) := by
  rw [List.getElem?_zip_eq_some]; exact ⟨hx, hy⟩
theorem any_take {z : List (Int × Int)} {i : Nat} {q : Int × Int → Bool} {p : Int × Int} (h : z[i]? = some p) (hq : q p = true) : z.any q = true := List.any_eq_true.2 ⟨p, List.mem_of_getElem? h, hq⟩
set_option maxHeartbeats 2000000 in
set_option maxRecDepth 100000 in
theorem rates_any {σ : World} {F : List Res} {a b : Option Addr} {c d : Nat} {l m : List Int} (lab : Nat) (k : SK) (fr : Int) (k' : SK) (fr' : Int) (h : Sl σ F encZ 1 (.slice a l.length c) l) (g : Sl σ F encZ 1 (.slice b m.length d) m) (hl : l.length ≤ 1048576) (hm : m.length ≤ 1048576) (hv : ∀ x ∈ l, 0 ≤ x ∧ x ≤ 1099511627776) (hw : ∀ x ∈ m, 0 ≤ x ∧ x ≤ 1099511627776) :
    FnT Try.prog σ F 21 [sr k fr (.slice a l.length c), sr k' fr' (.slice b m.length d)] [] (fun u ρ => ∃ r a c, r = (if ratesE k fr l k' fr' m = 0 then (l.zip m).map rateOf else []) ∧ u = .tuple #[.slice a r.length c, .int .i64 (ratesE k fr l k' fr' m)] ∧ ρ = [(lab, slW 3 encZ 1 (.slice a r.length c) r)]) := by
  refine fn_of 76 Try.func21 rfl Try.ntmps21 rfl ?_
  have hle := h.i64
  have gle := g.i64
  refine w_seq ?_
  refine w_region ?_
  refine wl_op [] rfl rfl rfl rfl (op_box (T := 48) (l := 2) rfl) ?_
  rintro _ _ ⟨b2, rfl, rfl⟩
  refine wl_op [] rfl rfl rfl rfl (op_box (T := 48) (l := 3) rfl) ?_
  rintro _ _ ⟨b3, rfl, rfl⟩
  refine wl_det rfl rfl rfl (op_assign rfl) ?_
  refine wl_det rfl rfl rfl (op_assign rfl) ?_
  refine wl_nil ?_
  refine st_tn ?_
  refine w_seq ?_
  refine w_block ?_
  refine w_seq ?_
  refine w_cutL [(9, .bool (decide (k.met ≠ 2 ∨ k'.met ≠ 1)))] [2, 3] [2, 3] rfl (fun K' hK => ?_) ?_
  · -- cut r1
    refine w_region ?_
    refine wl_det rfl rfl rfl (op_fieldAddr (off := 2) rfl tF48_2g) ?_
    refine wl_det rfl rfl rfl (op_load1 rfl tO3g (Ent.lab (l := 2) rfl (says_cel 2))) ?_
    refine wl_det rfl rfl rfl (op_neq rfl rfl) ?_
    refine wl_det rfl rfl rfl (op_move rfl) ?_
    refine wl_gsplit (t := 13) rfl (fun hg13 => ?_) (fun hg13 => ?_)
    · -- 13 is True
      refine wl_unwanted rfl rfl rfl rfl rfl rfl rfl rfl ?_
      refine wl_unwanted rfl rfl rfl rfl rfl rfl rfl rfl ?_
      refine wl_unwanted rfl rfl rfl rfl rfl rfl rfl rfl ?_
      refine wl_det rfl rfl rfl (op_pick_t rfl rfl) ?_
      refine wl_det rfl rfl rfl (op_assign rfl) ?_
      refine wl_nil ?_
      refine st_tn ?_
      exact cut_done1 [2, 3] hK rfl (by first | (rw [decide_eq_decide]; omega) | (symm; rw [decide_eq_false_iff_not]; omega) | (symm; rw [decide_eq_true_iff]; omega) | (simp; done) | (simp; omega) | (simp [*]; done) | (simp [*]; omega)) (by rfl) rfl rfl
    · -- 13 is False
      refine wl_wanted_det rfl rfl rfl rfl rfl rfl rfl (op_fieldAddr (off := 2) rfl tF48_2g) ?_
      refine wl_wanted_det rfl rfl rfl rfl rfl rfl rfl (op_load1 rfl tO3g (Ent.lab (l := 3) rfl (says_cel 2))) ?_
      refine wl_wanted_det rfl rfl rfl rfl rfl rfl rfl (op_neq rfl rfl) ?_
      refine wl_det rfl rfl rfl (op_pick_f rfl rfl) ?_
      refine wl_det rfl rfl rfl (op_assign rfl) ?_
      refine wl_nil ?_
      refine st_tn ?_
      exact cut_done1 [2, 3] hK rfl (by first | (rw [decide_eq_decide]; omega) | (symm; rw [decide_eq_false_iff_not]; omega) | (symm; rw [decide_eq_true_iff]; omega) | (simp; done) | (simp; omega) | (simp [*]; done) | (simp [*]; omega)) (by rfl) rfl rfl
  · -- behind r1
    show W _ _ _ _ _ [(9, _), (2, _), (3, _)] [(2, _), (3, _)] _
    refine w_cond_d rfl (fun hc9 => ?_) (fun hc9 => ?_)
    · -- c9.t
      refine w_seq ?_
      refine w_emp 77 (slO_nil 3 1) ?_
      refine w_region ?_
      refine wl_det rfl rfl rfl (op_assign rfl) ?_
      refine wl_det rfl rfl rfl (op_assign rfl) ?_
      refine wl_nil ?_
      refine st_tn ?_
      refine w_ret ?_
      refine st_br ?_
      refine st_tr ?_
      refine st_ret (vs := [_, _]) [77] Try.results21 ⟨rfl, ⟨rfl, trivial⟩⟩ rfl ?_
      refine ⟨[(lab, _)], rfl, ?_⟩
      have he : ratesE k fr l k' fr' m = 12 := by unfold ratesE; rw [if_pos hc9]
      exact ⟨[], none, 0, by rw [he]; rfl, by rw [he]; rfl, rfl⟩
    · -- c9.f
      refine w_seq ?_
      refine w_cutL [(18, .bool (decide (k.svc ≠ k'.svc ∨ k.op ≠ k'.op ∨ fr ≠ fr' ∨ l.length ≠ m.length)))] [2, 3] [2, 3] rfl (fun K' hK => ?_) ?_
      · -- cut r3
        refine w_region ?_
        refine wl_det rfl rfl rfl (op_fieldAddr (off := 0) rfl tF48_0g) ?_
        refine wl_det rfl rfl rfl (op_load1 rfl tO9g (Ent.lab (l := 2) rfl (says_cel 0))) ?_
        refine wl_det rfl rfl rfl (op_fieldAddr (off := 0) rfl tF48_0g) ?_
        refine wl_det rfl rfl rfl (op_load1 rfl tO9g (Ent.lab (l := 3) rfl (says_cel 0))) ?_
        refine wl_det rfl rfl rfl (op_neStr rfl rfl) ?_
        refine wl_det rfl rfl rfl (op_move rfl) ?_
        refine wl_gsplit (t := 24) rfl (fun hg24 => ?_) (fun hg24 => ?_)
        · -- 24 is True
          refine wl_unwanted rfl rfl rfl rfl rfl rfl rfl rfl ?_
          refine wl_unwanted rfl rfl rfl rfl rfl rfl rfl rfl ?_
          refine wl_unwanted rfl rfl rfl rfl rfl rfl rfl rfl ?_
          refine wl_unwanted rfl rfl rfl rfl rfl rfl rfl rfl ?_
          refine wl_unwanted rfl rfl rfl rfl rfl rfl rfl rfl ?_
          refine wl_det rfl rfl rfl (op_pick_t rfl rfl) ?_
          refine wl_det rfl rfl rfl (op_move rfl) ?_
          refine wl_unwanted rfl rfl rfl rfl rfl rfl rfl rfl ?_
          refine wl_unwanted rfl rfl rfl rfl rfl rfl rfl rfl ?_
          refine wl_unwanted rfl rfl rfl rfl rfl rfl rfl rfl ?_
          refine wl_unwanted rfl rfl rfl rfl rfl rfl rfl rfl ?_
          refine wl_unwanted rfl rfl rfl rfl rfl rfl rfl rfl ?_
          refine wl_det rfl rfl rfl (op_pick_t rfl rfl) ?_
          refine wl_det rfl rfl rfl (op_move rfl) ?_
          refine wl_unwanted rfl rfl rfl rfl rfl rfl rfl rfl ?_
          refine wl_unwanted rfl rfl rfl rfl rfl rfl rfl rfl ?_
          refine wl_unwanted rfl rfl rfl rfl rfl rfl rfl rfl ?_
          refine wl_unwanted rfl rfl rfl rfl rfl rfl rfl rfl ?_
          refine wl_unwanted rfl rfl rfl rfl rfl rfl rfl rfl ?_
          refine wl_unwanted rfl rfl rfl rfl rfl rfl rfl rfl ?_
          refine wl_unwanted rfl rfl rfl rfl rfl rfl rfl rfl ?_
          refine wl_det rfl rfl rfl (op_pick_t rfl rfl) ?_
          refine wl_det rfl rfl rfl (op_assign rfl) ?_
          refine wl_nil ?_
          refine st_tn ?_
          exact cut_done1 [2, 3] hK rfl (by first | (rw [decide_eq_decide]; omega) | (symm; rw [decide_eq_false_iff_not]; omega) | (symm; rw [decide_eq_true_iff]; omega) | (simp; done) | (simp; omega) | (simp [*]; done) | (simp [*]; omega)) (by rfl) rfl rfl
        · -- 24 is False
          refine wl_wanted_det rfl rfl rfl rfl rfl rfl rfl (op_fieldAddr (off := 1) rfl tF48_1g) ?_
          refine wl_wanted_det rfl rfl rfl rfl rfl rfl rfl (op_load1 rfl tO9g (Ent.lab (l := 2) rfl (says_cel 1))) ?_
          refine wl_wanted_det rfl rfl rfl rfl rfl rfl rfl (op_fieldAddr (off := 1) rfl tF48_1g) ?_
          refine wl_wanted_det rfl rfl rfl rfl rfl rfl rfl (op_load1 rfl tO9g (Ent.lab (l := 3) rfl (says_cel 1))) ?_
          refine wl_wanted_det rfl rfl rfl rfl rfl rfl rfl (op_neStr rfl rfl) ?_
          refine wl_det rfl rfl rfl (op_pick_f rfl rfl) ?_
          refine wl_det rfl rfl rfl (op_move rfl) ?_
          refine wl_gsplit (t := 31) rfl (fun hg31 => ?_) (fun hg31 => ?_)
          · -- 31 is True
            refine wl_unwanted rfl rfl rfl rfl rfl rfl rfl rfl ?_
            refine wl_unwanted rfl rfl rfl rfl rfl rfl rfl rfl ?_
            refine wl_unwanted rfl rfl rfl rfl rfl rfl rfl rfl ?_
            refine wl_unwanted rfl rfl rfl rfl rfl rfl rfl rfl ?_
            refine wl_unwanted rfl rfl rfl rfl rfl rfl rfl rfl ?_
            refine wl_det rfl rfl rfl (op_pick_t rfl rfl) ?_
            refine wl_det rfl rfl rfl (op_move rfl) ?_
            refine wl_unwanted rfl rfl rfl rfl rfl rfl rfl rfl ?_
            refine wl_unwanted rfl rfl rfl rfl rfl rfl rfl rfl ?_
            refine wl_unwanted rfl rfl rfl rfl rfl rfl rfl rfl ?_
            refine wl_unwanted rfl rfl rfl rfl rfl rfl rfl rfl ?_
            refine wl_unwanted rfl rfl rfl rfl rfl rfl rfl rfl ?_
            refine wl_unwanted rfl rfl rfl rfl rfl rfl rfl rfl ?_
            refine wl_unwanted rfl rfl rfl rfl rfl rfl rfl rfl ?_
            refine wl_det rfl rfl rfl (op_pick_t rfl rfl) ?_
            refine wl_det rfl rfl rfl (op_assign rfl) ?_
            refine wl_nil ?_
            refine st_tn ?_
            exact cut_done1 [2, 3] hK rfl (by first | (rw [decide_eq_decide]; omega) | (symm; rw [decide_eq_false_iff_not]; omega) | (symm; rw [decide_eq_true_iff]; omega) | (simp; done) | (simp; omega) | (simp [*]; done) | (simp [*]; omega)) (by rfl) rfl rfl
          · -- 31 is False
            refine wl_wanted_det rfl rfl rfl rfl rfl rfl rfl (op_fieldAddr (off := 5) rfl tF48_4g) ?_
            refine wl_wanted_det rfl rfl rfl rfl rfl rfl rfl (op_load1 rfl tO3g (Ent.lab (l := 2) rfl (says_cel 5))) ?_
            refine wl_wanted_det rfl rfl rfl rfl rfl rfl rfl (op_fieldAddr (off := 5) rfl tF48_4g) ?_
            refine wl_wanted_det rfl rfl rfl rfl rfl rfl rfl (op_load1 rfl tO3g (Ent.lab (l := 3) rfl (says_cel 5))) ?_
            refine wl_wanted_det rfl rfl rfl rfl rfl rfl rfl (op_neq rfl rfl) ?_
            refine wl_det rfl rfl rfl (op_pick_f rfl rfl) ?_
            refine wl_det rfl rfl rfl (op_move rfl) ?_
            refine wl_gsplit (t := 38) rfl (fun hg38 => ?_) (fun hg38 => ?_)
            · -- 38 is True
              refine wl_unwanted rfl rfl rfl rfl rfl rfl rfl rfl ?_
              refine wl_unwanted rfl rfl rfl rfl rfl rfl rfl rfl ?_
              refine wl_unwanted rfl rfl rfl rfl rfl rfl rfl rfl ?_
              refine wl_unwanted rfl rfl rfl rfl rfl rfl rfl rfl ?_
              refine wl_unwanted rfl rfl rfl rfl rfl rfl rfl rfl ?_
              refine wl_unwanted rfl rfl rfl rfl rfl rfl rfl rfl ?_
              refine wl_unwanted rfl rfl rfl rfl rfl rfl rfl rfl ?_
              refine wl_det rfl rfl rfl (op_pick_t rfl rfl) ?_
              refine wl_det rfl rfl rfl (op_assign rfl) ?_
              refine wl_nil ?_
              refine st_tn ?_
              exact cut_done1 [2, 3] hK rfl (by first | (rw [decide_eq_decide]; omega) | (symm; rw [decide_eq_false_iff_not]; omega) | (symm; rw [decide_eq_true_iff]; omega) | (simp; done) | (simp; omega) | (simp [*]; done) | (simp [*]; omega)) (by rfl) rfl rfl
            · -- 38 is False
              refine wl_wanted_det rfl rfl rfl rfl rfl rfl rfl (op_fieldAddr (off := 6) rfl tF48_5g) ?_
              refine wl_wanted_det rfl rfl rfl rfl rfl rfl rfl (op_load1 rfl tO25g (Ent.lab (l := 2) rfl (says_cel 6))) ?_
              refine wl_wanted_det rfl rfl rfl rfl rfl rfl rfl (op_lenT rfl tS25g (Sl.ent (by first | exact Sl.app h _ | exact Sl.app g _))) ?_
              refine wl_wanted_det rfl rfl rfl rfl rfl rfl rfl (op_fieldAddr (off := 6) rfl tF48_5g) ?_
              refine wl_wanted_det rfl rfl rfl rfl rfl rfl rfl (op_load1 rfl tO25g (Ent.lab (l := 3) rfl (says_cel 6))) ?_
              refine wl_wanted_det rfl rfl rfl rfl rfl rfl rfl (op_lenT rfl tS25g (Sl.ent (by first | exact Sl.app h _ | exact Sl.app g _))) ?_
              refine wl_wanted_det rfl rfl rfl rfl rfl rfl rfl (op_neq rfl rfl) ?_
              refine wl_det rfl rfl rfl (op_pick_f rfl rfl) ?_
              refine wl_det rfl rfl rfl (op_assign rfl) ?_
              refine wl_nil ?_
              refine st_tn ?_
              exact cut_done1 [2, 3] hK rfl (by first | (rw [decide_eq_decide]; omega) | (symm; rw [decide_eq_false_iff_not]; omega) | (symm; rw [decide_eq_true_iff]; omega) | (simp; done) | (simp; omega) | (simp [*]; done) | (simp [*]; omega)) (by rfl) rfl rfl
      · -- behind r3
        show W _ _ _ _ _ [(18, _), (2, _), (3, _)] [(2, _), (3, _)] _
        refine w_cond_d rfl (fun hc18 => ?_) (fun hc18 => ?_)
        · -- c18.t
          refine w_seq ?_
          refine w_emp 77 (slO_nil 3 1) ?_
          refine w_region ?_
          refine wl_det rfl rfl rfl (op_assign rfl) ?_
          refine wl_det rfl rfl rfl (op_assign rfl) ?_
          refine wl_nil ?_
          refine st_tn ?_
          refine w_ret ?_
          refine st_br ?_
          refine st_tr ?_
          refine st_ret (vs := [_, _]) [77] Try.results21 ⟨rfl, ⟨rfl, trivial⟩⟩ rfl ?_
          refine ⟨[(lab, _)], rfl, ?_⟩
          have he : ratesE k fr l k' fr' m = 17 := by unfold ratesE; rw [if_neg hc9, if_pos hc18]
          exact ⟨[], none, 0, by rw [he]; rfl, by rw [he]; rfl, rfl⟩
        · -- c18.f
          have hlm : l.length = m.length := Classical.byContradiction fun e => hc18 (.inr (.inr (.inr e)))
          refine w_skip ?_
          refine st_bn ?_
          refine st_tn ?_
          refine w_seq ?_
          refine w_region ?_
          refine wl_det rfl rfl rfl (op_assign rfl) ?_
          refine wl_nil ?_
          refine st_tn ?_
          refine w_seq ?_
          refine w_seq ?_
          refine w_region ?_
          refine wl_det rfl rfl rfl (op_fieldAddr (off := 6) rfl tF48_5g) ?_
          refine wl_det rfl rfl rfl (op_load1 rfl tO25g (Ent.lab (l := 3) rfl (says_cel 6))) ?_
          refine wl_det rfl rfl rfl (op_lenT rfl tS25g (Sl.ent (by first | exact Sl.app h _ | exact Sl.app g _))) ?_
          refine wl_det rfl rfl rfl (op_move rfl) ?_
          refine wl_nil ?_
          refine st_tn ?_
          refine w_block ?_
          refine w_emp 6 (slO_nil 3 1) ?_
          refine w_loopQ (X := Nat × List Int × Option Addr × Nat) (fun z => z.1 ≤ m.length ∧ z.2.1 = ((l.zip m).take z.1).map rateOf ∧ ∀ p ∈ (l.zip m).take z.1, ¬ p.1 > p.2) (fun z => [(50, .int .i64 (z.1)), (6, .slice (z.2.2.1) (z.2.1).length (z.2.2.2))]) (fun z => [(6, slW 3 encZ 1 (.slice (z.2.2.1) (z.2.1).length (z.2.2.2)) (z.2.1))]) (fun z => m.length - z.1) ((0, [], none, 0)) [(2, _), (48, _), (49, _)] [(2, _), (3, _)] [6, 2, 3] rfl (rfl) (.cons rfl (.cons rfl (.nil _))) (.cons rfl (.cons rfl (.cons rfl (.nil _)))) (by
              try dsimp only
              exact ⟨Nat.zero_le _, rfl, by simp⟩) ?_
          rintro ⟨i, out, a_out, c_out⟩ ⟨hi, ho, hn⟩
          refine w_norm2 (by dsimp only [List.cons_append, List.nil_append]) (by dsimp only [List.cons_append, List.nil_append]) ?_
          try dsimp only at hi ho hn ⊢
          refine w_seq ?_
          refine w_region ?_
          refine wl_det rfl rfl rfl (op_lss rfl rfl) ?_
          refine wl_nil ?_
          refine st_tn ?_
          refine w_seq ?_
          refine w_cond_d rfl (fun hc51 => ?_) (fun hc51 => ?_)
          · -- c51.t
            obtain ⟨x, hx⟩ := getE (l := l) (i := i) (by omega)
            obtain ⟨y, hy⟩ := getE (l := m) (i := i) (by omega)
            have hz := zip_get hx hy
            have hxb := hv x (List.mem_of_getElem? hx)
            have hyb := hw y (List.mem_of_getElem? hy)
            have hol : out.length = i := by rw [ho]; simp; omega
            refine w_skip ?_
            refine st_tn ?_
            refine w_seq ?_
            refine w_block ?_
            refine w_seq ?_
            refine w_region ?_
            refine wl_det rfl rfl rfl (op_move rfl) ?_
            refine wl_det rfl rfl rfl (op_idx rfl rfl tS25g (Sl.ent (by first | exact Sl.app h _ | exact Sl.app g _)) (by omega)) ?_
            refine wl_det rfl rfl rfl (op_ldx rfl tO3g (by first | exact Sl.app h _ | exact Sl.app g _) (by assumption) (by rfl)) ?_
            refine wl_det rfl rfl rfl (op_assign rfl) ?_
            refine wl_det rfl rfl rfl (op_assign rfl) ?_
            refine wl_nil ?_
            refine st_tn ?_
            refine w_seq ?_
            refine w_seq ?_
            refine w_region ?_
            refine wl_det rfl rfl rfl (op_fieldAddr (off := 6) rfl tF48_5g) ?_
            refine wl_det rfl rfl rfl (op_load1 rfl tO25g (Ent.lab (l := 2) rfl (says_cel 6))) ?_
            refine wl_det rfl rfl rfl (op_move rfl) ?_
            refine wl_det rfl rfl rfl (op_idx rfl rfl tS25g (Sl.ent (by first | exact Sl.app h _ | exact Sl.app g _)) (by omega)) ?_
            refine wl_det rfl rfl rfl (op_ldx rfl tO3g (by first | exact Sl.app h _ | exact Sl.app g _) (by assumption) (by rfl)) ?_
            refine wl_det rfl rfl rfl (op_move rfl) ?_
            refine wl_det rfl rfl rfl (op_gtr rfl rfl) ?_
            refine wl_nil ?_
            refine st_tn ?_
            refine w_cond_d rfl (fun hc61 => ?_) (fun hc61 => ?_)
            · -- c61.t
              refine w_seq ?_
              refine w_emp 77 (slO_nil 3 1) ?_
              refine w_region ?_
              refine wl_det rfl rfl rfl (op_assign rfl) ?_
              refine wl_det rfl rfl rfl (op_assign rfl) ?_
              refine wl_nil ?_
              refine st_tn ?_
              refine w_ret ?_
              refine st_tr ?_
              refine st_br ?_
              refine st_tr ?_
              refine st_tr ?_
              refine st_br ?_
              refine st_tr ?_
              refine st_ret (vs := [_, _]) [77] Try.results21 ⟨rfl, ⟨rfl, trivial⟩⟩ rfl ?_
              refine ⟨[(lab, _)], rfl, ?_⟩
              have he : ratesE k fr l k' fr' m = 20 := by unfold ratesE; rw [if_neg hc9, if_neg hc18, if_pos (any_take hz (decide_eq_true hc61))]
              exact ⟨[], none, 0, by rw [he]; rfl, by rw [he]; rfl, rfl⟩
            · -- c61.f
              refine w_skip ?_
              refine st_tn ?_
              refine w_region ?_
              refine wl_det rfl rfl rfl (op_move rfl) ?_
              refine wl_det rfl rfl rfl (op_fieldAddr (off := 6) rfl tF48_5g) ?_
              refine wl_det rfl rfl rfl (op_load1 rfl tO25g (Ent.lab (l := 2) rfl (says_cel 6))) ?_
              refine wl_det rfl rfl rfl (op_move rfl) ?_
              refine wl_det rfl rfl rfl (op_idx rfl rfl tS25g (Sl.ent (by first | exact Sl.app h _ | exact Sl.app g _)) (by omega)) ?_
              refine wl_det rfl rfl rfl (op_ldx rfl tO3g (by first | exact Sl.app h _ | exact Sl.app g _) (by assumption) (by rfl)) ?_
              refine wl_det rfl rfl rfl (op_mul' rfl rfl (by omega)) ?_
              refine wl_det rfl rfl rfl (op_move rfl) ?_
              refine wl_det rfl rfl rfl (op_max rfl rfl) ?_
              refine wl_det rfl rfl rfl (op_quoN rfl rfl (by omega) (by omega) (by omega)) ?_
              refine wl_op [] rfl rfl rfl rfl (op_buildSlice (enc := encZ) (l := [_]) (lab := 72) tL25_1g rfl rfl (fun _ => rfl) rfl) ?_
              rintro _ _ ⟨a72, c72, rfl, rfl⟩
              refine wl_op [6] rfl rfl rfl rfl (op_append (lab := 6) (lab' := 73) rfl rfl tP25g enc1Z (Sl.lab 72 rfl (by simp [maxLen])) (by first | omega | (simp; done) | (simp; omega) | (simp [*]; omega)) (by first | omega | (simp; done) | (simp; omega) | (simp [*]; omega))) ?_
              rintro _ _ ⟨a73, c73, rfl, rfl⟩
              refine wl_det rfl rfl rfl (op_assign rfl) ?_
              refine wl_nil ?_
              refine st_bn ?_
              refine st_tn ?_
              refine w_region ?_
              refine wl_det rfl rfl rfl (op_add' rfl rfl (by omega)) ?_
              refine wl_det rfl rfl rfl (op_move rfl) ?_
              refine wl_nil ?_
              refine st_roundQ (x := (i, out, a_out, c_out)) ((i + 1, _, _, _)) [73, 2, 3] rfl (rfl) (.cons rfl (.cons rfl (.nil _))) (.cons rfl (.cons rfl (.cons rfl (.nil _)))) (by
                  try dsimp only
                  refine ⟨by omega, ?_, ?_⟩
                  · rw [take_snoc hz, List.map_append, ← ho]; rfl
                  · rw [take_snoc hz]; intro p hp; rcases List.mem_append.1 hp with hp | hp; (· exact hn p hp); (· simp only [List.mem_singleton] at hp; subst hp; exact hc61)) (by
                  try dsimp only
                  omega) 
          · -- c51.f
            refine w_exit ?_
            refine st_te ?_
            refine st_te ?_
            refine st_be ?_
            refine st_tn ?_
            refine w_seq ?_
            refine w_region ?_
            refine wl_det rfl rfl rfl (op_move rfl) ?_
            refine wl_det rfl rfl rfl (op_assign rfl) ?_
            refine wl_det rfl rfl rfl (op_assign rfl) ?_
            refine wl_nil ?_
            refine st_tn ?_
            refine w_ret ?_
            refine st_ret (vs := [_, _]) [6] Try.results21 ⟨rfl, ⟨rfl, trivial⟩⟩ rfl ?_
            refine ⟨[(lab, _)], rfl, ?_⟩
            have hzl : (l.zip m).length = m.length := by simp; omega
            rw [take_all (by omega)] at ho hn
            have he : ratesE k fr l k' fr' m = 0 := by
              unfold ratesE
              rw [if_neg hc9, if_neg hc18, if_neg]
              intro h1; obtain ⟨p, hp, h2⟩ := List.any_eq_true.1 h1; exact hn p hp (of_decide_eq_true h2)
            exact ⟨out, _, _, by rw [he, if_pos rfl, ho], by rw [he]; rfl, rfl⟩

def rate2 (p : Int × Int) : Int := if p.2 > 0 then p.1 * 1000000 / p.2 else 0
/-- The facts on a drawn graph that the laws use. -/
theorem kG_met (a b c d : Int) : 1 ≤ (kG a b c d).met ∧ (kG a b c d).met ≤ 3 := by unfold kG; simp only; omega
theorem u8_take {l : List Int} (h : ∀ x ∈ l, 0 ≤ x ∧ x ≤ 255) (n : Nat) : ∀ x ∈ l.take n, 0 ≤ x ∧ x ≤ 1099511627776 := fun x hx => by have := h x (List.mem_of_mem_take hx); omega
-- CALL sleuth/series.Rates pat=⟨m{d}, a{d}, c{d}, hm{d}, rfl, rfl⟩ lab={d} rates_any {d} _ _ _ _ {s0} {s1} (by omega) (by omega) (by assumption) (by assumption)
set_option maxHeartbeats 1000000 in
set_option maxRecDepth 100000 in
theorem lawRates_any {σ : World} {F : List Res} {a b : Option Addr} {c d : Nat} {l m : List Int} (x0 x1 x2 x3 x4 y0 y1 y2 y3 y4 : Int) (h : Sl σ F encY 1 (.slice a l.length c) l) (hb : ∀ x ∈ l, 0 ≤ x ∧ x ≤ 255) (h0 : 0 ≤ x0 ∧ x0 ≤ 255) (h1 : 0 ≤ x1 ∧ x1 ≤ 255) (h2 : 0 ≤ x2 ∧ x2 ≤ 255) (h3 : 0 ≤ x3 ∧ x3 ≤ 255) (h4 : 0 ≤ x4 ∧ x4 ≤ 255) (g : Sl σ F encY 1 (.slice b m.length d) m) (gb : ∀ x ∈ m, 0 ≤ x ∧ x ≤ 255) (g0 : 0 ≤ y0 ∧ y0 ≤ 255) (g1 : 0 ≤ y1 ∧ y1 ≤ 255) (g2 : 0 ≤ y2 ∧ y2 ≤ 255) (g3 : 0 ≤ y3 ∧ y3 ≤ 255) (g4 : 0 ≤ y4 ∧ y4 ≤ 255) :
    FnT Try.prog σ F 5 [.agg #[.int .u8 x0, .int .u8 x1, .int .u8 x2, .int .u8 x3, .int .u8 x4, .slice a l.length c], .agg #[.int .u8 y0, .int .u8 y1, .int .u8 y2, .int .u8 y3, .int .u8 y4, .slice b m.length d]] [] (fun u ρ => u = .bool true ∧ ρ = []) := by
  refine fn_of 114 Try.func5 rfl Try.ntmps5 rfl ?_
  have hlt : (l.take 30).length ≤ 30 := by rw [List.length_take]; omega
  have hmt : (m.take 30).length ≤ 30 := by rw [List.length_take]; omega
  have hv := u8_take hb 30
  have hw := u8_take gb 30
  refine w_seq ?_
  refine w_region ?_
  refine wl_op [] rfl rfl rfl rfl (op_box (T := 46) (l := 2) rfl) ?_
  rintro _ _ ⟨b2, rfl, rfl⟩
  refine wl_op [] rfl rfl rfl rfl (op_box (T := 46) (l := 3) rfl) ?_
  rintro _ _ ⟨b3, rfl, rfl⟩
  refine wl_det rfl rfl rfl (op_assign rfl) ?_
  refine wl_nil ?_
  refine st_tn ?_
  refine w_seq ?_
  refine w_drawW (fun β => [⟨13, [], [], [], noW (_), false, [], []⟩, ⟨14, [0], [], [], fun w => DetW _ _, false, [], []⟩, ⟨15, [], [], [], noW (_), false, [], []⟩, ⟨16, [2], [], [], fun w => DetW _ _, false, [], []⟩, ⟨5, [], [], [], fun w => DetW _ _, false, [], []⟩, ⟨6, [], [], [], fun w => DetW _ _, false, [], []⟩]) [] [2, 3] [⟨13, [], [], false, [], []⟩, ⟨14, [0], [], false, [], []⟩, ⟨15, [], [], false, [], []⟩, ⟨16, [2], [], false, [], []⟩, ⟨5, [], [], false, [], []⟩, ⟨6, [], [], false, [], []⟩] [[], [], [], [], [], []] [[], [], [], [], [], []] tMixg (fun _ => by rfl) (fun _ => by rfl) (by kernel_rfl) (by kernel_rfl) (by rfl) (by rfl)
      (fun β => ⟨.p rfl (by intro X; exact op_loadA rfl tA46g (Ent.lab (l := 2) rfl (says_cel 0)) (Nat.le_of_ble_eq_true rfl)),
      ⟨.px rfl (by intro X; rintro _ _ ⟨rfl, rfl⟩; refine OpT.mono (op_fn Try.func20 rfl rfl rfl (series_any 14 _ _ _ _ _ (by first | exact Sl.app (by assumption) _ | exact Sl.app (Sl.app (by assumption) _) _) (by assumption) (by assumption) (by assumption) (by assumption) (by assumption) (by assumption))) ?_; rintro _ _ ⟨a14, c14, rfl, rfl⟩; obtain ⟨w, rfl, rfl⟩ : ∃ w : Wt, w.a = a14 ∧ w.c = c14 := ⟨{ a := a14, c := c14 }, rfl, rfl⟩; exact ⟨w, rfl, rfl⟩),
      ⟨.p rfl (by intro X; exact op_loadA rfl tA46g (Ent.lab (l := 3) rfl (says_cel 0)) (Nat.le_of_ble_eq_true rfl)),
      ⟨.px rfl (by intro X; rintro _ _ ⟨rfl, rfl⟩; refine OpT.mono (op_fn Try.func20 rfl rfl rfl (series_any 16 _ _ _ _ _ (by first | exact Sl.app (by assumption) _ | exact Sl.app (Sl.app (by assumption) _) _) (by assumption) (by assumption) (by assumption) (by assumption) (by assumption) (by assumption))) ?_; rintro _ _ ⟨a16, c16, rfl, rfl⟩; obtain ⟨w, rfl, rfl⟩ : ∃ w : Wt, w.a = a16 ∧ w.c = c16 := ⟨{ a := a16, c := c16 }, rfl, rfl⟩; exact ⟨w, rfl, rfl⟩),
      ⟨.px rfl (by intro X; refine OpT.mono (op_alloc (l := 5) tN48g) ?_; rintro _ _ ⟨b5, rfl, rfl⟩; obtain ⟨w, rfl⟩ : ∃ w : Wt, w.b = b5 := ⟨{ b := b5 }, rfl⟩; exact ⟨w, rfl, rfl⟩),
      ⟨.px rfl (by intro X; refine OpT.mono (op_alloc (l := 6) tN48g) ?_; rintro _ _ ⟨b6, rfl, rfl⟩; obtain ⟨w, rfl⟩ : ∃ w : Wt, w.b = b6 := ⟨{ b := b6 }, rfl⟩; exact ⟨w, rfl, rfl⟩),
      trivial⟩⟩⟩⟩⟩⟩)
      (fun β β' => ⟨fun _ => by rfl, ⟨fun _ => by rfl, ⟨fun _ => by rfl, ⟨fun _ => by rfl, ⟨fun _ => by rfl, ⟨fun _ => by rfl, trivial⟩⟩⟩⟩⟩⟩) ?_
  intro β
  rintro _ _ ⟨rfl, rfl⟩ _ _ ⟨rfl, rfl⟩ _ _ ⟨rfl, rfl⟩ _ _ ⟨rfl, rfl⟩ _ _ ⟨rfl, rfl⟩ _ _ ⟨rfl, rfl⟩
  generalize (β 1).a = a14
  generalize (β 1).c = c14
  generalize (β 3).a = a16
  generalize (β 3).c = c16
  generalize (β 4).b = b5
  generalize (β 5).b = b6
  refine wl_norm (e' := [(5, _), (6, _), (14, _), (16, _)]) (.cons rfl (.cons rfl (.cons rfl (.cons rfl (.nil _))))) (by dsimp only [cond_false, cond_true, List.nil_append, List.cons_append]) ?_
  refine wl_op0 [5] rfl rfl rfl (op_store rfl rfl tZ48g (by rfl) (by rfl) (by exact Nat.le_of_ble_eq_true rfl)) ?_
  rintro _ _ ⟨rfl, rfl⟩
  refine wl_op0 [6] rfl rfl rfl (op_store rfl rfl tZ48g (by rfl) (by rfl) (by exact Nat.le_of_ble_eq_true rfl)) ?_
  rintro _ _ ⟨rfl, rfl⟩
  refine wl_nil ?_
  refine st_tn ?_
  refine w_seq ?_
  refine w_region ?_
  refine wl_det rfl rfl rfl (op_loadA rfl tA48g (Ent.lab (l := 5) rfl (says_cel 0)) (Nat.le_of_ble_eq_true rfl)) ?_
  refine wl_det rfl rfl rfl (op_loadA rfl tA48g (Ent.lab (l := 6) rfl (says_cel 0)) (Nat.le_of_ble_eq_true rfl)) ?_
  refine wl_op [] rfl rfl rfl rfl (op_fn Try.func21 rfl rfl rfl (rates_any 20 _ _ _ _ (Sl.lab 14 rfl (by first | (simp [maxLen]; done) | (unfold maxLen; omega))) (Sl.lab 16 rfl (by first | (simp [maxLen]; done) | (unfold maxLen; omega))) (by omega) (by omega) (by assumption) (by assumption))) ?_
  rintro _ _ ⟨m20, a20, c20, hm20, rfl, rfl⟩
  refine wl_det rfl rfl rfl (op_move rfl) ?_
  refine wl_det rfl rfl rfl (op_extract rfl rfl) ?_
  refine wl_det rfl rfl rfl (op_extract rfl rfl) ?_
  refine wl_det rfl rfl rfl (op_assign rfl) ?_
  refine wl_det rfl rfl rfl (op_assign rfl) ?_
  refine wl_nil ?_
  refine st_tn ?_
  refine w_seq ?_
  generalize kG x0 x1 x2 x3 = k at *
  generalize kG y0 y1 y2 y3 = k' at *
  generalize x4 % 40 = fr at *
  generalize y4 % 40 = fr' at *
  generalize l.take 30 = L at *
  generalize m.take 30 = M at *
  refine w_region ?_
  refine wl_det rfl rfl rfl (op_assign rfl) ?_
  refine wl_nil ?_
  refine st_tn ?_
  refine w_seq ?_
  refine w_region ?_
  refine wl_det rfl rfl rfl (op_assign rfl) ?_
  refine wl_nil ?_
  refine st_tn ?_
  refine w_seq ?_
  refine w_block ?_
  refine w_seq ?_
  refine w_cutL [(63, .bool (decide (k.met ≠ 2 ∨ k'.met ≠ 1)))] [5, 6, 7, 8, 9, 10] [2, 3, 14, 16, 5, 6, 20] rfl (fun K' hK => ?_) ?_
  · -- cut r14
    refine w_region ?_
    refine wl_det rfl rfl rfl (op_fieldAddr (off := 2) rfl tF48_2g) ?_
    refine wl_det rfl rfl rfl (op_load1 rfl tO3g (Ent.lab (l := 5) rfl (says_cel 2))) ?_
    refine wl_det rfl rfl rfl (op_neq rfl rfl) ?_
    refine wl_det rfl rfl rfl (op_move rfl) ?_
    refine wl_gsplit (t := 67) rfl (fun hg67 => ?_) (fun hg67 => ?_)
    · -- 67 is True
      refine wl_unwanted rfl rfl rfl rfl rfl rfl rfl rfl ?_
      refine wl_unwanted rfl rfl rfl rfl rfl rfl rfl rfl ?_
      refine wl_unwanted rfl rfl rfl rfl rfl rfl rfl rfl ?_
      refine wl_det rfl rfl rfl (op_pick_t rfl rfl) ?_
      refine wl_det rfl rfl rfl (op_assign rfl) ?_
      refine wl_nil ?_
      refine st_tn ?_
      exact cut_done1 [2, 3, 14, 16, 5, 6, 20] hK rfl (by first | (rw [decide_eq_decide]; omega) | (symm; rw [decide_eq_false_iff_not]; omega) | (symm; rw [decide_eq_true_iff]; omega) | (simp; done) | (simp; omega) | (simp [*]; done) | (simp [*]; omega)) (by rfl) rfl rfl
    · -- 67 is False
      refine wl_wanted_det rfl rfl rfl rfl rfl rfl rfl (op_fieldAddr (off := 2) rfl tF48_2g) ?_
      refine wl_wanted_det rfl rfl rfl rfl rfl rfl rfl (op_load1 rfl tO3g (Ent.lab (l := 6) rfl (says_cel 2))) ?_
      refine wl_wanted_det rfl rfl rfl rfl rfl rfl rfl (op_neq rfl rfl) ?_
      refine wl_det rfl rfl rfl (op_pick_f rfl rfl) ?_
      refine wl_det rfl rfl rfl (op_assign rfl) ?_
      refine wl_nil ?_
      refine st_tn ?_
      exact cut_done1 [2, 3, 14, 16, 5, 6, 20] hK rfl (by first | (rw [decide_eq_decide]; omega) | (symm; rw [decide_eq_false_iff_not]; omega) | (symm; rw [decide_eq_true_iff]; omega) | (simp; done) | (simp; omega) | (simp [*]; done) | (simp [*]; omega)) (by rfl) rfl rfl
  · -- behind r14
    show W _ _ _ _ _ [(63, _), (5, _), (6, _), (7, _), (8, _), (9, _), (10, _)] [(2, _), (3, _), (14, _), (16, _), (5, _), (6, _), (20, _)] _
    refine w_cond_d rfl (fun hc63 => ?_) (fun hc63 => ?_)
    · -- c63.t
      have he : ratesE k fr L k' fr' M = 12 := by unfold ratesE; rw [if_pos hc63]
      refine w_region ?_
      refine wl_det rfl rfl rfl (op_assign rfl) ?_
      refine wl_nil ?_
      refine st_bn ?_
      refine st_tn ?_
      refine w_seq ?_
      refine w_seq ?_
      refine w_region ?_
      refine wl_det rfl rfl rfl (op_move rfl) ?_
      refine wl_det rfl rfl rfl (op_val (v' := .bool true) (by rfl) (op_neq rfl rfl)) ?_
      refine wl_nil ?_
      refine st_tn ?_
      refine w_cond_t (rfl) ?_
      refine w_emp 77 (slO_nil 3 1) ?_
      refine w_region ?_
      refine wl_det rfl rfl rfl (op_assign rfl) ?_
      refine wl_nil ?_
      refine st_tn ?_
      refine w_seq ?_
      refine w_region ?_
      refine wl_det rfl rfl rfl (op_fn Try.func16 rfl rfl rfl (known_any)) ?_
      refine wl_det rfl rfl rfl (op_move rfl) ?_
      refine wl_wanted_det rfl rfl rfl rfl rfl rfl rfl (op_move rfl) ?_
      refine wl_wanted_det rfl rfl rfl rfl rfl rfl rfl (op_move rfl) ?_
      refine wl_wanted_det rfl rfl rfl rfl rfl rfl rfl (op_val (v' := .bool true) (by rw [he]; rfl) (op_eql rfl rfl)) ?_
      refine wl_det rfl rfl rfl (op_pick_t rfl rfl) ?_
      refine wl_det rfl rfl rfl (op_move rfl) ?_
      refine wl_wanted_det rfl rfl rfl rfl rfl rfl rfl (op_move rfl) ?_
      refine wl_wanted_det rfl rfl rfl rfl rfl rfl rfl (op_move rfl) ?_
      refine wl_wanted_det rfl rfl rfl rfl rfl rfl rfl (op_val (v' := .bool true) (by rw [hm20, he]; rfl) (op_fn Try.func22 rfl rfl rfl (ints_any (m := []) (Sl.lab 20 rfl (by rw [hm20, he]; simp [maxLen])) (Sl.lab 77 rfl (by simp [maxLen]))))) ?_
      refine wl_det rfl rfl rfl (op_pick_t rfl rfl) ?_
      refine wl_det rfl rfl rfl (op_assign rfl) ?_
      refine wl_nil ?_
      refine st_tn ?_
      refine w_ret ?_
      refine st_ret (vs := [_]) [] Try.results5 ⟨rfl, trivial⟩ rfl ?_
      refine ⟨_, rfl, ?_⟩
      exact ⟨rfl, rfl⟩
    · -- c63.f
      refine w_seq ?_
      refine w_cutL [(72, .bool (decide (k.svc ≠ k'.svc ∨ k.op ≠ k'.op ∨ fr ≠ fr' ∨ L.length ≠ M.length)))] [5, 6, 7, 8, 9, 10] [2, 3, 14, 16, 5, 6, 20] rfl (fun K' hK => ?_) ?_
      · -- cut r16
        refine w_region ?_
        refine wl_det rfl rfl rfl (op_fieldAddr (off := 0) rfl tF48_0g) ?_
        refine wl_det rfl rfl rfl (op_load1 rfl tO9g (Ent.lab (l := 5) rfl (says_cel 0))) ?_
        refine wl_det rfl rfl rfl (op_fieldAddr (off := 0) rfl tF48_0g) ?_
        refine wl_det rfl rfl rfl (op_load1 rfl tO9g (Ent.lab (l := 6) rfl (says_cel 0))) ?_
        refine wl_det rfl rfl rfl (op_neStr rfl rfl) ?_
        refine wl_det rfl rfl rfl (op_move rfl) ?_
        refine wl_gsplit (t := 78) rfl (fun hg78 => ?_) (fun hg78 => ?_)
        · -- 78 is True
          refine wl_unwanted rfl rfl rfl rfl rfl rfl rfl rfl ?_
          refine wl_unwanted rfl rfl rfl rfl rfl rfl rfl rfl ?_
          refine wl_unwanted rfl rfl rfl rfl rfl rfl rfl rfl ?_
          refine wl_unwanted rfl rfl rfl rfl rfl rfl rfl rfl ?_
          refine wl_unwanted rfl rfl rfl rfl rfl rfl rfl rfl ?_
          refine wl_det rfl rfl rfl (op_pick_t rfl rfl) ?_
          refine wl_det rfl rfl rfl (op_move rfl) ?_
          refine wl_unwanted rfl rfl rfl rfl rfl rfl rfl rfl ?_
          refine wl_unwanted rfl rfl rfl rfl rfl rfl rfl rfl ?_
          refine wl_unwanted rfl rfl rfl rfl rfl rfl rfl rfl ?_
          refine wl_unwanted rfl rfl rfl rfl rfl rfl rfl rfl ?_
          refine wl_unwanted rfl rfl rfl rfl rfl rfl rfl rfl ?_
          refine wl_det rfl rfl rfl (op_pick_t rfl rfl) ?_
          refine wl_det rfl rfl rfl (op_move rfl) ?_
          refine wl_unwanted rfl rfl rfl rfl rfl rfl rfl rfl ?_
          refine wl_unwanted rfl rfl rfl rfl rfl rfl rfl rfl ?_
          refine wl_unwanted rfl rfl rfl rfl rfl rfl rfl rfl ?_
          refine wl_unwanted rfl rfl rfl rfl rfl rfl rfl rfl ?_
          refine wl_unwanted rfl rfl rfl rfl rfl rfl rfl rfl ?_
          refine wl_unwanted rfl rfl rfl rfl rfl rfl rfl rfl ?_
          refine wl_unwanted rfl rfl rfl rfl rfl rfl rfl rfl ?_
          refine wl_det rfl rfl rfl (op_pick_t rfl rfl) ?_
          refine wl_det rfl rfl rfl (op_assign rfl) ?_
          refine wl_nil ?_
          refine st_tn ?_
          exact cut_done1 [2, 3, 14, 16, 5, 6, 20] hK rfl (by first | (rw [decide_eq_decide]; omega) | (symm; rw [decide_eq_false_iff_not]; omega) | (symm; rw [decide_eq_true_iff]; omega) | (simp; done) | (simp; omega) | (simp [*]; done) | (simp [*]; omega)) (by rfl) rfl rfl
        · -- 78 is False
          refine wl_wanted_det rfl rfl rfl rfl rfl rfl rfl (op_fieldAddr (off := 1) rfl tF48_1g) ?_
          refine wl_wanted_det rfl rfl rfl rfl rfl rfl rfl (op_load1 rfl tO9g (Ent.lab (l := 5) rfl (says_cel 1))) ?_
          refine wl_wanted_det rfl rfl rfl rfl rfl rfl rfl (op_fieldAddr (off := 1) rfl tF48_1g) ?_
          refine wl_wanted_det rfl rfl rfl rfl rfl rfl rfl (op_load1 rfl tO9g (Ent.lab (l := 6) rfl (says_cel 1))) ?_
          refine wl_wanted_det rfl rfl rfl rfl rfl rfl rfl (op_neStr rfl rfl) ?_
          refine wl_det rfl rfl rfl (op_pick_f rfl rfl) ?_
          refine wl_det rfl rfl rfl (op_move rfl) ?_
          refine wl_gsplit (t := 85) rfl (fun hg85 => ?_) (fun hg85 => ?_)
          · -- 85 is True
            refine wl_unwanted rfl rfl rfl rfl rfl rfl rfl rfl ?_
            refine wl_unwanted rfl rfl rfl rfl rfl rfl rfl rfl ?_
            refine wl_unwanted rfl rfl rfl rfl rfl rfl rfl rfl ?_
            refine wl_unwanted rfl rfl rfl rfl rfl rfl rfl rfl ?_
            refine wl_unwanted rfl rfl rfl rfl rfl rfl rfl rfl ?_
            refine wl_det rfl rfl rfl (op_pick_t rfl rfl) ?_
            refine wl_det rfl rfl rfl (op_move rfl) ?_
            refine wl_unwanted rfl rfl rfl rfl rfl rfl rfl rfl ?_
            refine wl_unwanted rfl rfl rfl rfl rfl rfl rfl rfl ?_
            refine wl_unwanted rfl rfl rfl rfl rfl rfl rfl rfl ?_
            refine wl_unwanted rfl rfl rfl rfl rfl rfl rfl rfl ?_
            refine wl_unwanted rfl rfl rfl rfl rfl rfl rfl rfl ?_
            refine wl_unwanted rfl rfl rfl rfl rfl rfl rfl rfl ?_
            refine wl_unwanted rfl rfl rfl rfl rfl rfl rfl rfl ?_
            refine wl_det rfl rfl rfl (op_pick_t rfl rfl) ?_
            refine wl_det rfl rfl rfl (op_assign rfl) ?_
            refine wl_nil ?_
            refine st_tn ?_
            exact cut_done1 [2, 3, 14, 16, 5, 6, 20] hK rfl (by first | (rw [decide_eq_decide]; omega) | (symm; rw [decide_eq_false_iff_not]; omega) | (symm; rw [decide_eq_true_iff]; omega) | (simp; done) | (simp; omega) | (simp [*]; done) | (simp [*]; omega)) (by rfl) rfl rfl
          · -- 85 is False
            refine wl_wanted_det rfl rfl rfl rfl rfl rfl rfl (op_fieldAddr (off := 5) rfl tF48_4g) ?_
            refine wl_wanted_det rfl rfl rfl rfl rfl rfl rfl (op_load1 rfl tO3g (Ent.lab (l := 5) rfl (says_cel 5))) ?_
            refine wl_wanted_det rfl rfl rfl rfl rfl rfl rfl (op_fieldAddr (off := 5) rfl tF48_4g) ?_
            refine wl_wanted_det rfl rfl rfl rfl rfl rfl rfl (op_load1 rfl tO3g (Ent.lab (l := 6) rfl (says_cel 5))) ?_
            refine wl_wanted_det rfl rfl rfl rfl rfl rfl rfl (op_neq rfl rfl) ?_
            refine wl_det rfl rfl rfl (op_pick_f rfl rfl) ?_
            refine wl_det rfl rfl rfl (op_move rfl) ?_
            refine wl_gsplit (t := 92) rfl (fun hg92 => ?_) (fun hg92 => ?_)
            · -- 92 is True
              refine wl_unwanted rfl rfl rfl rfl rfl rfl rfl rfl ?_
              refine wl_unwanted rfl rfl rfl rfl rfl rfl rfl rfl ?_
              refine wl_unwanted rfl rfl rfl rfl rfl rfl rfl rfl ?_
              refine wl_unwanted rfl rfl rfl rfl rfl rfl rfl rfl ?_
              refine wl_unwanted rfl rfl rfl rfl rfl rfl rfl rfl ?_
              refine wl_unwanted rfl rfl rfl rfl rfl rfl rfl rfl ?_
              refine wl_unwanted rfl rfl rfl rfl rfl rfl rfl rfl ?_
              refine wl_det rfl rfl rfl (op_pick_t rfl rfl) ?_
              refine wl_det rfl rfl rfl (op_assign rfl) ?_
              refine wl_nil ?_
              refine st_tn ?_
              exact cut_done1 [2, 3, 14, 16, 5, 6, 20] hK rfl (by first | (rw [decide_eq_decide]; omega) | (symm; rw [decide_eq_false_iff_not]; omega) | (symm; rw [decide_eq_true_iff]; omega) | (simp; done) | (simp; omega) | (simp [*]; done) | (simp [*]; omega)) (by rfl) rfl rfl
            · -- 92 is False
              refine wl_wanted_det rfl rfl rfl rfl rfl rfl rfl (op_fieldAddr (off := 6) rfl tF48_5g) ?_
              refine wl_wanted_det rfl rfl rfl rfl rfl rfl rfl (op_load1 rfl tO25g (Ent.lab (l := 5) rfl (says_cel 6))) ?_
              refine wl_wanted_det rfl rfl rfl rfl rfl rfl rfl (op_lenT rfl tS25g (Sl.ent (Sl.lab 14 rfl (by first | (simp [maxLen]; done) | (unfold maxLen; omega))))) ?_
              refine wl_wanted_det rfl rfl rfl rfl rfl rfl rfl (op_fieldAddr (off := 6) rfl tF48_5g) ?_
              refine wl_wanted_det rfl rfl rfl rfl rfl rfl rfl (op_load1 rfl tO25g (Ent.lab (l := 6) rfl (says_cel 6))) ?_
              refine wl_wanted_det rfl rfl rfl rfl rfl rfl rfl (op_lenT rfl tS25g (Sl.ent (Sl.lab 16 rfl (by first | (simp [maxLen]; done) | (unfold maxLen; omega))))) ?_
              refine wl_wanted_det rfl rfl rfl rfl rfl rfl rfl (op_neq rfl rfl) ?_
              refine wl_det rfl rfl rfl (op_pick_f rfl rfl) ?_
              refine wl_det rfl rfl rfl (op_assign rfl) ?_
              refine wl_nil ?_
              refine st_tn ?_
              exact cut_done1 [2, 3, 14, 16, 5, 6, 20] hK rfl (by first | (rw [decide_eq_decide]; omega) | (symm; rw [decide_eq_false_iff_not]; omega) | (symm; rw [decide_eq_true_iff]; omega) | (simp; done) | (simp; omega) | (simp [*]; done) | (simp [*]; omega)) (by rfl) rfl rfl
      · -- behind r16
        show W _ _ _ _ _ [(72, _), (5, _), (6, _), (7, _), (8, _), (9, _), (10, _)] [(2, _), (3, _), (14, _), (16, _), (5, _), (6, _), (20, _)] _
        refine w_cond_d rfl (fun hc72 => ?_) (fun hc72 => ?_)
        · -- c72.t
          have he : ratesE k fr L k' fr' M = 17 := by unfold ratesE; rw [if_neg hc63, if_pos hc72]
          refine w_region ?_
          refine wl_det rfl rfl rfl (op_assign rfl) ?_
          refine wl_nil ?_
          refine st_bn ?_
          refine st_tn ?_
          refine w_seq ?_
          refine w_seq ?_
          refine w_region ?_
          refine wl_det rfl rfl rfl (op_move rfl) ?_
          refine wl_det rfl rfl rfl (op_val (v' := .bool true) (by rfl) (op_neq rfl rfl)) ?_
          refine wl_nil ?_
          refine st_tn ?_
          refine w_cond_t (rfl) ?_
          refine w_emp 77 (slO_nil 3 1) ?_
          refine w_region ?_
          refine wl_det rfl rfl rfl (op_assign rfl) ?_
          refine wl_nil ?_
          refine st_tn ?_
          refine w_seq ?_
          refine w_region ?_
          refine wl_det rfl rfl rfl (op_fn Try.func16 rfl rfl rfl (known_any)) ?_
          refine wl_det rfl rfl rfl (op_move rfl) ?_
          refine wl_wanted_det rfl rfl rfl rfl rfl rfl rfl (op_move rfl) ?_
          refine wl_wanted_det rfl rfl rfl rfl rfl rfl rfl (op_move rfl) ?_
          refine wl_wanted_det rfl rfl rfl rfl rfl rfl rfl (op_val (v' := .bool true) (by rw [he]; rfl) (op_eql rfl rfl)) ?_
          refine wl_det rfl rfl rfl (op_pick_t rfl rfl) ?_
          refine wl_det rfl rfl rfl (op_move rfl) ?_
          refine wl_wanted_det rfl rfl rfl rfl rfl rfl rfl (op_move rfl) ?_
          refine wl_wanted_det rfl rfl rfl rfl rfl rfl rfl (op_move rfl) ?_
          refine wl_wanted_det rfl rfl rfl rfl rfl rfl rfl (op_val (v' := .bool true) (by rw [hm20, he]; rfl) (op_fn Try.func22 rfl rfl rfl (ints_any (m := []) (Sl.lab 20 rfl (by rw [hm20, he]; simp [maxLen])) (Sl.lab 77 rfl (by simp [maxLen]))))) ?_
          refine wl_det rfl rfl rfl (op_pick_t rfl rfl) ?_
          refine wl_det rfl rfl rfl (op_assign rfl) ?_
          refine wl_nil ?_
          refine st_tn ?_
          refine w_ret ?_
          refine st_ret (vs := [_]) [] Try.results5 ⟨rfl, trivial⟩ rfl ?_
          refine ⟨_, rfl, ?_⟩
          exact ⟨rfl, rfl⟩
        · -- c72.f
          have hlm : L.length = M.length := Classical.byContradiction fun e => hc72 (.inr (.inr (.inr e)))
          refine w_seq ?_
          refine w_region ?_
          refine wl_det rfl rfl rfl (op_assign rfl) ?_
          refine wl_nil ?_
          refine st_tn ?_
          refine w_block ?_
          refine w_emp 10 (slO_nil 3 1) ?_
          refine w_loopQ (X := Int × List Int × Option Addr × Nat × Nat) (fun z => z.2.2.2.2 ≤ L.length ∧ z.2.1 = ((L.zip M).take z.2.2.2.2).map rate2 ∧ ((z.1 = 0 ∨ z.1 = 20) ∧ (z.1 = 20 ↔ ∃ p ∈ (L.zip M).take z.2.2.2.2, p.1 > p.2))) (fun z => [(9, .int .i64 (z.1)), (10, .slice (z.2.2.1) (z.2.1).length (z.2.2.2.1)), (11, .int .i64 (z.2.2.2.2))]) (fun z => [(10, slW 3 encZ 1 (.slice (z.2.2.1) (z.2.1).length (z.2.2.2.1)) (z.2.1))]) (fun z => L.length - z.2.2.2.2) ((_, [], none, 0, 0)) [(5, _), (6, _), (7, _), (8, _)] [(2, _), (3, _), (14, _), (16, _), (5, _), (6, _), (20, _)] [10, 2, 3, 14, 16, 5, 6, 20] rfl (rfl) (.cons rfl (.cons rfl (.cons rfl (.nil _)))) (.cons rfl (.cons rfl (.cons rfl (.cons rfl (.nil _))))) (by
              try dsimp only
              exact ⟨Nat.zero_le _, rfl, .inl rfl, by simp⟩) ?_
          rintro ⟨want, rates, a_rates, c_rates, i⟩ ⟨hi, ho, hw0, hwi⟩
          refine w_norm2 (by dsimp only [List.cons_append, List.nil_append]) (by dsimp only [List.cons_append, List.nil_append]) ?_
          try dsimp only at hi ho hw0 hwi ⊢
          refine w_seq ?_
          refine w_seq ?_
          refine w_region ?_
          refine wl_det rfl rfl rfl (op_move rfl) ?_
          refine wl_det rfl rfl rfl (op_fieldAddr (off := 6) rfl tF48_5g) ?_
          refine wl_det rfl rfl rfl (op_load1 rfl tO25g (Ent.lab (l := 5) rfl (says_cel 6))) ?_
          refine wl_det rfl rfl rfl (op_lenT rfl tS25g (Sl.ent (Sl.lab 14 rfl (by first | (simp [maxLen]; done) | (unfold maxLen; omega))))) ?_
          refine wl_det rfl rfl rfl (op_lss rfl rfl) ?_
          refine wl_nil ?_
          refine st_tn ?_
          refine w_cond_d rfl (fun hc27 => ?_) (fun hc27 => ?_)
          · -- c27.t
            obtain ⟨x, hx⟩ := getE (l := L) (i := i) (by omega)
            obtain ⟨y, hy⟩ := getE (l := M) (i := i) (by omega)
            have hz := zip_get hx hy
            have hxb := hv x (List.mem_of_getElem? hx)
            have hyb := hw y (List.mem_of_getElem? hy)
            have hol : rates.length = i := by rw [ho]; simp; omega
            refine w_skip ?_
            refine st_tn ?_
            refine w_seq ?_
            refine w_block ?_
            refine w_seq ?_
            refine w_region ?_
            refine wl_det rfl rfl rfl (op_assign rfl) ?_
            refine wl_nil ?_
            refine st_tn ?_
            refine w_seq ?_
            refine w_seq ?_
            refine w_region ?_
            refine wl_det rfl rfl rfl (op_fieldAddr (off := 6) rfl tF48_5g) ?_
            refine wl_det rfl rfl rfl (op_load1 rfl tO25g (Ent.lab (l := 6) rfl (says_cel 6))) ?_
            refine wl_det rfl rfl rfl (op_move rfl) ?_
            refine wl_det rfl rfl rfl (op_idx rfl rfl tS25g (Sl.ent (Sl.lab 16 rfl (by first | (simp [maxLen]; done) | (unfold maxLen; omega)))) (by omega)) ?_
            refine wl_det rfl rfl rfl (op_ldx rfl tO3g (Sl.lab 16 rfl (by first | (simp [maxLen]; done) | (unfold maxLen; omega))) (by assumption) (by rfl)) ?_
            refine wl_det rfl rfl rfl (op_gtr rfl rfl) ?_
            refine wl_nil ?_
            refine st_tn ?_
            refine w_cond_d rfl (fun hc35 => ?_) (fun hc35 => ?_)
            · -- c35.t
              have hrt : x * 1000000 / y = rate2 (x, y) := by unfold rate2; rw [if_pos hc35]
              refine w_drawW (fun β => [⟨36, [], [], [], noW (_), false, [], []⟩, ⟨37, [0], [], [], noW (_), false, [], []⟩, ⟨38, [], [], [], noW (_), false, [], []⟩, ⟨39, [1, 2], [], [], noW (_), false, [], []⟩, ⟨40, [3], [], [], noW (_), false, [], []⟩, ⟨41, [4], [], [], noW (_), false, [], []⟩, ⟨42, [], [], [], noW (_), false, [], []⟩, ⟨43, [6], [], [], noW (_), false, [], []⟩, ⟨44, [], [], [], noW (_), false, [], []⟩, ⟨45, [7, 8], [], [], noW (_), false, [], []⟩, ⟨46, [9], [], [], noW (_), false, [], []⟩]) [] [5, 11, 6] [⟨36, [], [], false, [], []⟩, ⟨37, [0], [], false, [], []⟩, ⟨38, [], [], false, [], []⟩, ⟨39, [1, 2], [], false, [], []⟩, ⟨40, [3], [], false, [], []⟩, ⟨41, [4], [], false, [], []⟩, ⟨42, [], [], false, [], []⟩, ⟨43, [6], [], false, [], []⟩, ⟨44, [], [], false, [], []⟩, ⟨45, [7, 8], [], false, [], []⟩, ⟨46, [9], [], false, [], []⟩] [[], [], [], [], [], [], [], [], [], [], []] [[], [], [], [], [], [], [], [], [], [], []] tMixg (fun _ => by rfl) (fun _ => by rfl) (by kernel_rfl) (by kernel_rfl) (by rfl) (by rfl)
                  (fun β => ⟨.p rfl (by intro X; exact op_fieldAddr (off := 6) rfl tF48_5g),
                  ⟨.p rfl (by intro X; rintro _ _ ⟨rfl, rfl⟩; exact op_load1 rfl tO25g (Ent.lab (l := 5) rfl (says_cel 6))),
                  ⟨.p rfl (by intro X; exact op_move rfl),
                  ⟨.p rfl (by intro X; rintro _ _ ⟨rfl, rfl⟩ _ _ ⟨rfl, rfl⟩; exact op_idx rfl rfl tS25g (Sl.ent (Sl.lab 14 rfl (by first | (simp [maxLen]; done) | (unfold maxLen; omega)))) (by omega)),
                  ⟨.p rfl (by intro X; rintro _ _ ⟨rfl, rfl⟩; exact op_ldx rfl tO3g (Sl.lab 14 rfl (by first | (simp [maxLen]; done) | (unfold maxLen; omega))) (by assumption) (by rfl)),
                  ⟨.p rfl (by intro X; rintro _ _ ⟨rfl, rfl⟩; exact op_mul' rfl rfl (by omega)),
                  ⟨.p rfl (by intro X; exact op_fieldAddr (off := 6) rfl tF48_5g),
                  ⟨.p rfl (by intro X; rintro _ _ ⟨rfl, rfl⟩; exact op_load1 rfl tO25g (Ent.lab (l := 6) rfl (says_cel 6))),
                  ⟨.p rfl (by intro X; exact op_move rfl),
                  ⟨.p rfl (by intro X; rintro _ _ ⟨rfl, rfl⟩ _ _ ⟨rfl, rfl⟩; exact op_idx rfl rfl tS25g (Sl.ent (Sl.lab 16 rfl (by first | (simp [maxLen]; done) | (unfold maxLen; omega)))) (by omega)),
                  ⟨.p rfl (by intro X; rintro _ _ ⟨rfl, rfl⟩; exact op_ldx rfl tO3g (Sl.lab 16 rfl (by first | (simp [maxLen]; done) | (unfold maxLen; omega))) (by assumption) (by rfl)),
                  trivial⟩⟩⟩⟩⟩⟩⟩⟩⟩⟩⟩)
                  (fun β β' => ⟨fun _ => by rfl, ⟨fun _ => by rfl, ⟨fun _ => by rfl, ⟨fun _ => by rfl, ⟨fun _ => by rfl, ⟨fun _ => by rfl, ⟨fun _ => by rfl, ⟨fun _ => by rfl, ⟨fun _ => by rfl, ⟨fun _ => by rfl, ⟨fun _ => by rfl, trivial⟩⟩⟩⟩⟩⟩⟩⟩⟩⟩⟩) ?_
              intro β
              rintro _ _ ⟨rfl, rfl⟩ _ _ ⟨rfl, rfl⟩ _ _ ⟨rfl, rfl⟩ _ _ ⟨rfl, rfl⟩ _ _ ⟨rfl, rfl⟩ _ _ ⟨rfl, rfl⟩ _ _ ⟨rfl, rfl⟩ _ _ ⟨rfl, rfl⟩ _ _ ⟨rfl, rfl⟩ _ _ ⟨rfl, rfl⟩ _ _ ⟨rfl, rfl⟩
              refine wl_norm (e' := [(5, _), (6, _), (7, _), (8, _), (9, _), (10, _), (11, _), (41, _), (46, _)]) (.cons rfl (.cons rfl (.cons rfl (.cons rfl (.cons rfl (.cons rfl (.cons rfl (.cons rfl (.cons rfl (.nil _)))))))))) (by dsimp only [cond_false, cond_true, List.nil_append, List.cons_append]) ?_
              refine wl_det rfl rfl rfl (op_quoN rfl rfl (by omega) (by omega) (by omega)) ?_
              refine wl_det rfl rfl rfl (op_assign rfl) ?_
              refine wl_nil ?_
              refine st_tn ?_
              refine w_seq ?_
              refine w_region ?_
              refine wl_det rfl rfl rfl (op_move rfl) ?_
              refine wl_det rfl rfl rfl (op_move rfl) ?_
              refine wl_op [] rfl rfl rfl rfl (op_buildSlice (enc := encZ) (l := [_]) (lab := 50) tL25_1g rfl rfl (fun _ => rfl) rfl) ?_
              rintro _ _ ⟨a50, c50, rfl, rfl⟩
              refine wl_op [10] rfl rfl rfl rfl (op_append (lab := 10) (lab' := 51) rfl rfl tP25g enc1Z (Sl.lab 50 rfl (by simp [maxLen])) (by first | omega | (simp; done) | (simp; omega) | (simp [*]; omega)) (by first | omega | (simp; done) | (simp; omega) | (simp [*]; omega))) ?_
              rintro _ _ ⟨a51, c51, rfl, rfl⟩
              refine wl_det rfl rfl rfl (op_assign rfl) ?_
              refine wl_nil ?_
              refine st_tn ?_
              refine w_seq ?_
              refine w_drawW (fun β => [⟨52, [], [], [], noW (_), false, [], []⟩, ⟨53, [0], [], [], noW (_), false, [], []⟩, ⟨54, [], [], [], noW (_), false, [], []⟩, ⟨55, [1, 2], [], [], noW (_), false, [], []⟩, ⟨56, [3], [], [], noW (_), false, [], []⟩, ⟨57, [], [], [], noW (_), false, [], []⟩, ⟨58, [5], [], [], noW (_), false, [], []⟩, ⟨59, [], [], [], noW (_), false, [], []⟩, ⟨60, [6, 7], [], [], noW (_), false, [], []⟩, ⟨61, [8], [], [], noW (_), false, [], []⟩]) [] [5, 11, 6] [⟨52, [], [], false, [], []⟩, ⟨53, [0], [], false, [], []⟩, ⟨54, [], [], false, [], []⟩, ⟨55, [1, 2], [], false, [], []⟩, ⟨56, [3], [], false, [], []⟩, ⟨57, [], [], false, [], []⟩, ⟨58, [5], [], false, [], []⟩, ⟨59, [], [], false, [], []⟩, ⟨60, [6, 7], [], false, [], []⟩, ⟨61, [8], [], false, [], []⟩] [[], [], [], [], [], [], [], [], [], []] [[], [], [], [], [], [], [], [], [], []] tMixg (fun _ => by rfl) (fun _ => by rfl) (by kernel_rfl) (by kernel_rfl) (by rfl) (by rfl)
                  (fun β => ⟨.p rfl (by intro X; exact op_fieldAddr (off := 6) rfl tF48_5g),
                  ⟨.p rfl (by intro X; rintro _ _ ⟨rfl, rfl⟩; exact op_load1 rfl tO25g (Ent.lab (l := 5) rfl (says_cel 6))),
                  ⟨.p rfl (by intro X; exact op_move rfl),
                  ⟨.p rfl (by intro X; rintro _ _ ⟨rfl, rfl⟩ _ _ ⟨rfl, rfl⟩; exact op_idx rfl rfl tS25g (Sl.ent (Sl.lab 14 rfl (by first | (simp [maxLen]; done) | (unfold maxLen; omega)))) (by omega)),
                  ⟨.p rfl (by intro X; rintro _ _ ⟨rfl, rfl⟩; exact op_ldx rfl tO3g (Sl.lab 14 rfl (by first | (simp [maxLen]; done) | (unfold maxLen; omega))) (by assumption) (by rfl)),
                  ⟨.p rfl (by intro X; exact op_fieldAddr (off := 6) rfl tF48_5g),
                  ⟨.p rfl (by intro X; rintro _ _ ⟨rfl, rfl⟩; exact op_load1 rfl tO25g (Ent.lab (l := 6) rfl (says_cel 6))),
                  ⟨.p rfl (by intro X; exact op_move rfl),
                  ⟨.p rfl (by intro X; rintro _ _ ⟨rfl, rfl⟩ _ _ ⟨rfl, rfl⟩; exact op_idx rfl rfl tS25g (Sl.ent (Sl.lab 16 rfl (by first | (simp [maxLen]; done) | (unfold maxLen; omega)))) (by omega)),
                  ⟨.p rfl (by intro X; rintro _ _ ⟨rfl, rfl⟩; exact op_ldx rfl tO3g (Sl.lab 16 rfl (by first | (simp [maxLen]; done) | (unfold maxLen; omega))) (by assumption) (by rfl)),
                  trivial⟩⟩⟩⟩⟩⟩⟩⟩⟩⟩)
                  (fun β β' => ⟨fun _ => by rfl, ⟨fun _ => by rfl, ⟨fun _ => by rfl, ⟨fun _ => by rfl, ⟨fun _ => by rfl, ⟨fun _ => by rfl, ⟨fun _ => by rfl, ⟨fun _ => by rfl, ⟨fun _ => by rfl, ⟨fun _ => by rfl, trivial⟩⟩⟩⟩⟩⟩⟩⟩⟩⟩) ?_
              intro β
              rintro _ _ ⟨rfl, rfl⟩ _ _ ⟨rfl, rfl⟩ _ _ ⟨rfl, rfl⟩ _ _ ⟨rfl, rfl⟩ _ _ ⟨rfl, rfl⟩ _ _ ⟨rfl, rfl⟩ _ _ ⟨rfl, rfl⟩ _ _ ⟨rfl, rfl⟩ _ _ ⟨rfl, rfl⟩ _ _ ⟨rfl, rfl⟩
              refine wl_norm (e' := [(5, _), (6, _), (7, _), (8, _), (9, _), (10, _), (11, _), (56, _), (61, _)]) (.cons rfl (.cons rfl (.cons rfl (.cons rfl (.cons rfl (.cons rfl (.cons rfl (.cons rfl (.cons rfl (.nil _)))))))))) (by dsimp only [cond_false, cond_true, List.nil_append, List.cons_append]) ?_
              refine wl_det rfl rfl rfl (op_gtr rfl rfl) ?_
              refine wl_nil ?_
              refine st_tn ?_
              refine w_cond_d rfl (fun hc62 => ?_) (fun hc62 => ?_)
              · -- c62.t
                refine w_region ?_
                refine wl_det rfl rfl rfl (op_assign rfl) ?_
                refine wl_nil ?_
                refine st_bn ?_
                refine st_tn ?_
                refine w_region ?_
                refine wl_det rfl rfl rfl (op_move rfl) ?_
                refine wl_det rfl rfl rfl (op_add' rfl rfl (by omega)) ?_
                refine wl_det rfl rfl rfl (op_assign rfl) ?_
                refine wl_nil ?_
                refine st_roundQ (x := (want, rates, a_rates, c_rates, i)) ((20, _, _, _, i + 1)) [51, 2, 3, 14, 16, 5, 6, 20] rfl (rfl) (.cons rfl (.cons rfl (.cons rfl (.nil _)))) (.cons rfl (.cons rfl (.cons rfl (.cons rfl (.nil _))))) (by
                    try dsimp only
                    refine ⟨by omega, ?_, .inr rfl, ?_⟩
                    · rw [take_snoc hz, List.map_append, ← ho, hrt]; rfl
                    · simp only [true_iff]; rw [take_snoc hz]; exact ⟨(x, y), by simp, hc62⟩) (by
                    try dsimp only
                    omega) 
              · -- c62.f
                refine w_skip ?_
                refine st_bn ?_
                refine st_tn ?_
                refine w_region ?_
                refine wl_det rfl rfl rfl (op_move rfl) ?_
                refine wl_det rfl rfl rfl (op_add' rfl rfl (by omega)) ?_
                refine wl_det rfl rfl rfl (op_assign rfl) ?_
                refine wl_nil ?_
                refine st_roundQ (x := (want, rates, a_rates, c_rates, i)) ((want, _, _, _, i + 1)) [51, 2, 3, 14, 16, 5, 6, 20] rfl (rfl) (.cons rfl (.cons rfl (.cons rfl (.nil _)))) (.cons rfl (.cons rfl (.cons rfl (.cons rfl (.nil _))))) (by
                    try dsimp only
                    refine ⟨by omega, ?_, hw0, ?_⟩
                    · rw [take_snoc hz, List.map_append, ← ho, hrt]; rfl
                    · rw [hwi, take_snoc hz]
                      constructor
                      · rintro ⟨p, hp, h1⟩; exact ⟨p, List.mem_append.2 (.inl hp), h1⟩
                      · rintro ⟨p, hp, h1⟩; rcases List.mem_append.1 hp with hp | hp; (· exact ⟨p, hp, h1⟩); (· simp only [List.mem_singleton] at hp; subst hp; exact absurd h1 hc62)) (by
                    try dsimp only
                    omega) 
            · -- c35.f
              have hrt : (0 : Int) = rate2 (x, y) := by unfold rate2; rw [if_neg hc35]
              refine w_skip ?_
              refine st_tn ?_
              refine w_seq ?_
              refine w_region ?_
              refine wl_det rfl rfl rfl (op_move rfl) ?_
              refine wl_det rfl rfl rfl (op_move rfl) ?_
              refine wl_op [] rfl rfl rfl rfl (op_buildSlice (enc := encZ) (l := [_]) (lab := 50) tL25_1g rfl rfl (fun _ => rfl) rfl) ?_
              rintro _ _ ⟨a50, c50, rfl, rfl⟩
              refine wl_op [10] rfl rfl rfl rfl (op_append (lab := 10) (lab' := 51) rfl rfl tP25g enc1Z (Sl.lab 50 rfl (by simp [maxLen])) (by first | omega | (simp; done) | (simp; omega) | (simp [*]; omega)) (by first | omega | (simp; done) | (simp; omega) | (simp [*]; omega))) ?_
              rintro _ _ ⟨a51, c51, rfl, rfl⟩
              refine wl_det rfl rfl rfl (op_assign rfl) ?_
              refine wl_nil ?_
              refine st_tn ?_
              refine w_seq ?_
              refine w_drawW (fun β => [⟨52, [], [], [], noW (_), false, [], []⟩, ⟨53, [0], [], [], noW (_), false, [], []⟩, ⟨54, [], [], [], noW (_), false, [], []⟩, ⟨55, [1, 2], [], [], noW (_), false, [], []⟩, ⟨56, [3], [], [], noW (_), false, [], []⟩, ⟨57, [], [], [], noW (_), false, [], []⟩, ⟨58, [5], [], [], noW (_), false, [], []⟩, ⟨59, [], [], [], noW (_), false, [], []⟩, ⟨60, [6, 7], [], [], noW (_), false, [], []⟩, ⟨61, [8], [], [], noW (_), false, [], []⟩]) [] [5, 11, 6] [⟨52, [], [], false, [], []⟩, ⟨53, [0], [], false, [], []⟩, ⟨54, [], [], false, [], []⟩, ⟨55, [1, 2], [], false, [], []⟩, ⟨56, [3], [], false, [], []⟩, ⟨57, [], [], false, [], []⟩, ⟨58, [5], [], false, [], []⟩, ⟨59, [], [], false, [], []⟩, ⟨60, [6, 7], [], false, [], []⟩, ⟨61, [8], [], false, [], []⟩] [[], [], [], [], [], [], [], [], [], []] [[], [], [], [], [], [], [], [], [], []] tMixg (fun _ => by rfl) (fun _ => by rfl) (by kernel_rfl) (by kernel_rfl) (by rfl) (by rfl)
                  (fun β => ⟨.p rfl (by intro X; exact op_fieldAddr (off := 6) rfl tF48_5g),
                  ⟨.p rfl (by intro X; rintro _ _ ⟨rfl, rfl⟩; exact op_load1 rfl tO25g (Ent.lab (l := 5) rfl (says_cel 6))),
                  ⟨.p rfl (by intro X; exact op_move rfl),
                  ⟨.p rfl (by intro X; rintro _ _ ⟨rfl, rfl⟩ _ _ ⟨rfl, rfl⟩; exact op_idx rfl rfl tS25g (Sl.ent (Sl.lab 14 rfl (by first | (simp [maxLen]; done) | (unfold maxLen; omega)))) (by omega)),
                  ⟨.p rfl (by intro X; rintro _ _ ⟨rfl, rfl⟩; exact op_ldx rfl tO3g (Sl.lab 14 rfl (by first | (simp [maxLen]; done) | (unfold maxLen; omega))) (by assumption) (by rfl)),
                  ⟨.p rfl (by intro X; exact op_fieldAddr (off := 6) rfl tF48_5g),
                  ⟨.p rfl (by intro X; rintro _ _ ⟨rfl, rfl⟩; exact op_load1 rfl tO25g (Ent.lab (l := 6) rfl (says_cel 6))),
                  ⟨.p rfl (by intro X; exact op_move rfl),
                  ⟨.p rfl (by intro X; rintro _ _ ⟨rfl, rfl⟩ _ _ ⟨rfl, rfl⟩; exact op_idx rfl rfl tS25g (Sl.ent (Sl.lab 16 rfl (by first | (simp [maxLen]; done) | (unfold maxLen; omega)))) (by omega)),
                  ⟨.p rfl (by intro X; rintro _ _ ⟨rfl, rfl⟩; exact op_ldx rfl tO3g (Sl.lab 16 rfl (by first | (simp [maxLen]; done) | (unfold maxLen; omega))) (by assumption) (by rfl)),
                  trivial⟩⟩⟩⟩⟩⟩⟩⟩⟩⟩)
                  (fun β β' => ⟨fun _ => by rfl, ⟨fun _ => by rfl, ⟨fun _ => by rfl, ⟨fun _ => by rfl, ⟨fun _ => by rfl, ⟨fun _ => by rfl, ⟨fun _ => by rfl, ⟨fun _ => by rfl, ⟨fun _ => by rfl, ⟨fun _ => by rfl, trivial⟩⟩⟩⟩⟩⟩⟩⟩⟩⟩) ?_
              intro β
              rintro _ _ ⟨rfl, rfl⟩ _ _ ⟨rfl, rfl⟩ _ _ ⟨rfl, rfl⟩ _ _ ⟨rfl, rfl⟩ _ _ ⟨rfl, rfl⟩ _ _ ⟨rfl, rfl⟩ _ _ ⟨rfl, rfl⟩ _ _ ⟨rfl, rfl⟩ _ _ ⟨rfl, rfl⟩ _ _ ⟨rfl, rfl⟩
              refine wl_norm (e' := [(5, _), (6, _), (7, _), (8, _), (9, _), (10, _), (11, _), (56, _), (61, _)]) (.cons rfl (.cons rfl (.cons rfl (.cons rfl (.cons rfl (.cons rfl (.cons rfl (.cons rfl (.cons rfl (.nil _)))))))))) (by dsimp only [cond_false, cond_true, List.nil_append, List.cons_append]) ?_
              refine wl_det rfl rfl rfl (op_gtr rfl rfl) ?_
              refine wl_nil ?_
              refine st_tn ?_
              refine w_cond_d rfl (fun hc62 => ?_) (fun hc62 => ?_)
              · -- c62.t
                refine w_region ?_
                refine wl_det rfl rfl rfl (op_assign rfl) ?_
                refine wl_nil ?_
                refine st_bn ?_
                refine st_tn ?_
                refine w_region ?_
                refine wl_det rfl rfl rfl (op_move rfl) ?_
                refine wl_det rfl rfl rfl (op_add' rfl rfl (by omega)) ?_
                refine wl_det rfl rfl rfl (op_assign rfl) ?_
                refine wl_nil ?_
                refine st_roundQ (x := (want, rates, a_rates, c_rates, i)) ((20, _, _, _, i + 1)) [51, 2, 3, 14, 16, 5, 6, 20] rfl (rfl) (.cons rfl (.cons rfl (.cons rfl (.nil _)))) (.cons rfl (.cons rfl (.cons rfl (.cons rfl (.nil _))))) (by
                    try dsimp only
                    refine ⟨by omega, ?_, .inr rfl, ?_⟩
                    · rw [take_snoc hz, List.map_append, ← ho, hrt]; rfl
                    · simp only [true_iff]; rw [take_snoc hz]; exact ⟨(x, y), by simp, hc62⟩) (by
                    try dsimp only
                    omega) 
              · -- c62.f
                refine w_skip ?_
                refine st_bn ?_
                refine st_tn ?_
                refine w_region ?_
                refine wl_det rfl rfl rfl (op_move rfl) ?_
                refine wl_det rfl rfl rfl (op_add' rfl rfl (by omega)) ?_
                refine wl_det rfl rfl rfl (op_assign rfl) ?_
                refine wl_nil ?_
                refine st_roundQ (x := (want, rates, a_rates, c_rates, i)) ((want, _, _, _, i + 1)) [51, 2, 3, 14, 16, 5, 6, 20] rfl (rfl) (.cons rfl (.cons rfl (.cons rfl (.nil _)))) (.cons rfl (.cons rfl (.cons rfl (.cons rfl (.nil _))))) (by
                    try dsimp only
                    refine ⟨by omega, ?_, hw0, ?_⟩
                    · rw [take_snoc hz, List.map_append, ← ho, hrt]; rfl
                    · rw [hwi, take_snoc hz]
                      constructor
                      · rintro ⟨p, hp, h1⟩; exact ⟨p, List.mem_append.2 (.inl hp), h1⟩
                      · rintro ⟨p, hp, h1⟩; rcases List.mem_append.1 hp with hp | hp; (· exact ⟨p, hp, h1⟩); (· simp only [List.mem_singleton] at hp; subst hp; exact absurd h1 hc62)) (by
                    try dsimp only
                    omega) 
          · -- c27.f
            have hzl : (L.zip M).length = L.length := by simp; omega
            rw [take_all (by omega)] at ho hwi
            refine w_exit ?_
            refine st_te ?_
            refine st_te ?_
            refine st_be ?_
            refine st_bn ?_
            refine st_tn ?_
            refine w_seq ?_
            refine w_seq ?_
            refine w_region ?_
            refine wl_det rfl rfl rfl (op_move rfl) ?_
            refine wl_det rfl rfl rfl (op_neq rfl rfl) ?_
            refine wl_nil ?_
            refine st_tn ?_
            refine w_cond_d rfl (fun hc102 => ?_) (fun hc102 => ?_)
            · -- c102.t
              obtain rfl : want = 20 := by omega
              have he : ratesE k fr L k' fr' M = 20 := by
                unfold ratesE
                obtain ⟨p, hp, h1⟩ := hwi.1 rfl
                rw [if_neg hc63, if_neg hc72, if_pos (List.any_eq_true.2 ⟨p, hp, decide_eq_true h1⟩)]
              refine w_emp 77 (slO_nil 3 1) ?_
              refine w_region ?_
              refine wl_det rfl rfl rfl (op_assign rfl) ?_
              refine wl_nil ?_
              refine st_tn ?_
              refine w_seq ?_
              refine w_region ?_
              refine wl_det rfl rfl rfl (op_fn Try.func16 rfl rfl rfl (known_any)) ?_
              refine wl_det rfl rfl rfl (op_move rfl) ?_
              refine wl_wanted_det rfl rfl rfl rfl rfl rfl rfl (op_move rfl) ?_
              refine wl_wanted_det rfl rfl rfl rfl rfl rfl rfl (op_move rfl) ?_
              refine wl_wanted_det rfl rfl rfl rfl rfl rfl rfl (op_val (v' := .bool true) (by rw [he]; rfl) (op_eql rfl rfl)) ?_
              refine wl_det rfl rfl rfl (op_pick_t rfl rfl) ?_
              refine wl_det rfl rfl rfl (op_move rfl) ?_
              refine wl_wanted_det rfl rfl rfl rfl rfl rfl rfl (op_move rfl) ?_
              refine wl_wanted_det rfl rfl rfl rfl rfl rfl rfl (op_move rfl) ?_
              refine wl_wanted_det rfl rfl rfl rfl rfl rfl rfl (op_val (v' := .bool true) (by rw [hm20, he]; rfl) (op_fn Try.func22 rfl rfl rfl (ints_any (m := []) (Sl.lab 20 rfl (by rw [hm20, he]; simp [maxLen])) (Sl.lab 77 rfl (by simp [maxLen]))))) ?_
              refine wl_det rfl rfl rfl (op_pick_t rfl rfl) ?_
              refine wl_det rfl rfl rfl (op_assign rfl) ?_
              refine wl_nil ?_
              refine st_tn ?_
              refine w_ret ?_
              refine st_ret (vs := [_]) [] Try.results5 ⟨rfl, trivial⟩ rfl ?_
              refine ⟨_, rfl, ?_⟩
              exact ⟨rfl, rfl⟩
            · -- c102.f
              obtain rfl : want = 0 := by omega
              have hno : ∀ p ∈ L.zip M, ¬ p.1 > p.2 := fun p hp h1 => by have := hwi.2 ⟨p, hp, h1⟩; omega
              have he : ratesE k fr L k' fr' M = 0 := by
                unfold ratesE
                rw [if_neg hc63, if_neg hc72, if_neg]
                intro h1; obtain ⟨p, hp, h2⟩ := List.any_eq_true.1 h1; exact hno p hp (of_decide_eq_true h2)
              have hrr : (L.zip M).map rateOf = (L.zip M).map rate2 := by
                refine List.map_congr_left fun p hp => ?_
                have h1 := hno p hp
                have h2 := hv p.1 (List.of_mem_zip hp).1
                have h3 := hw p.2 (List.of_mem_zip hp).2
                unfold rateOf rate2
                split
                · rw [show max 1 p.2 = p.2 by omega]
                · rw [show p.1 = 0 by omega]; simp
              refine w_skip ?_
              refine st_tn ?_
              refine w_seq ?_
              refine w_region ?_
              refine wl_det rfl rfl rfl (op_fn Try.func16 rfl rfl rfl (known_any)) ?_
              refine wl_det rfl rfl rfl (op_move rfl) ?_
              refine wl_wanted_det rfl rfl rfl rfl rfl rfl rfl (op_move rfl) ?_
              refine wl_wanted_det rfl rfl rfl rfl rfl rfl rfl (op_move rfl) ?_
              refine wl_wanted_det rfl rfl rfl rfl rfl rfl rfl (op_val (v' := .bool true) (by rw [he]; rfl) (op_eql rfl rfl)) ?_
              refine wl_det rfl rfl rfl (op_pick_t rfl rfl) ?_
              refine wl_det rfl rfl rfl (op_move rfl) ?_
              refine wl_wanted_det rfl rfl rfl rfl rfl rfl rfl (op_move rfl) ?_
              refine wl_wanted_det rfl rfl rfl rfl rfl rfl rfl (op_move rfl) ?_
              refine wl_wanted_det rfl rfl rfl rfl rfl rfl rfl (op_val (v' := .bool true) (by 
                    refine congrArg Value.bool (decide_eq_true ?_)
                    rw [hm20, he, if_pos rfl, ho, hrr]) (op_fn Try.func22 rfl rfl rfl (ints_any (Sl.lab 20 rfl (by rw [hm20, he]; simp [maxLen]; omega)) (Sl.lab 10 rfl (by rw [ho]; simp [maxLen]; omega))))) ?_
              refine wl_det rfl rfl rfl (op_pick_t rfl rfl) ?_
              refine wl_det rfl rfl rfl (op_assign rfl) ?_
              refine wl_nil ?_
              refine st_tn ?_
              refine w_ret ?_
              refine st_ret (vs := [_]) [] Try.results5 ⟨rfl, trivial⟩ rfl ?_
              refine ⟨_, rfl, ?_⟩
              exact ⟨rfl, rfl⟩

end Go.Proofs.Ytbgddblfalahfaa
