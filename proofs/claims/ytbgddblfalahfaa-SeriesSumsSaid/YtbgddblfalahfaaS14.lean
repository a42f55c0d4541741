/- The law SeriesWindows (layer 43). Conditions: none. -/
import Derived.Test.YtbgddblfalahfaaS13
namespace Go.Proofs.Ytbgddblfalahfaa
open Go Go.SL Go.RowKit
set_option linter.unusedVariables false
set_option linter.unusedSimpArgs false
theorem tA37n : aggB Try.prog 37 2 = true := by kernel_rfl
theorem tA46n : aggB Try.prog 46 6 = true := by kernel_rfl
theorem tA48n : aggB Try.prog 48 7 = true := by kernel_rfl
theorem tB37n : placesB Try.prog 37 = some ([(0, 1), (1, 1)], [Value.int .i64 0, Value.int .i64 0]) := by kernel_rfl
theorem tF37_0n : fieldB Try.prog 37 0 0 = true := by kernel_rfl
theorem tF37_1n : fieldB Try.prog 37 1 1 = true := by kernel_rfl
theorem tF48_4n : fieldB Try.prog 48 4 5 = true := by kernel_rfl
theorem tF48_5n : fieldB Try.prog 48 5 6 = true := by kernel_rfl
theorem tG37n : Try.prog.eqGuardType Try.prog.depth 37 = false := by kernel_rfl
theorem tMixn : Try.prog.follows .mixedOrders = true := by kernel_rfl
theorem tN37n : (Try.prog.info? 37).bind (·.zero) = some (Value.agg #[Value.int .i64 0, Value.int .i64 0]) := by kernel_rfl
theorem tN48n : (Try.prog.info? 48).bind (·.zero) = some (Value.agg #[Value.string .empty, Value.string .empty, Value.int .i64 0, Value.int .i64 0, Value.int .i64 0, Value.int .i64 0, Value.slice none 0 0]) := by kernel_rfl
theorem tO25n : oneB Try.prog 25 = true := by kernel_rfl
theorem tO3n : oneB Try.prog 3 = true := by kernel_rfl
theorem tS25n : sliceB Try.prog 25 3 1 = true := by kernel_rfl
theorem tZ25n : (Try.prog.info? 25).map (·.size) = some 1 := by kernel_rfl
theorem tZ3n : (Try.prog.info? 3).map (·.size) = some 1 := by kernel_rfl
theorem tZ37n : (Try.prog.info? 37).map (·.size) = some 2 := by kernel_rfl
theorem tZ48n : (Try.prog.info? 48).map (·.size) = some 7 := by kernel_rfl

theorem eq37 (a b c d : Int) (w : World) : (Op.equal 37 (.agg #[.int .i64 a, .int .i64 b]) (.agg #[.int .i64 c, .int .i64 d])).run Try.prog w = .ok (decide ((a, b) = (c, d))) w := by
  have hs : Try.prog.stoodInHeld 37 = false := by kernel_rfl
  have hf : Try.prog.fieldsOf 37 = #[{ name := "From", type := 3, offset := 0, embedded := false, tag := "", pkgPath := "", byteOffset := 0 }, { name := "To", type := 3, offset := 1, embedded := false, tag := "", pkgPath := "", byteOffset := 8 }] := by kernel_rfl
  have ha : ∀ w, (isAgg 3).run Try.prog w = .ok false w := fun w => by unfold isAgg; rw [Sem.run_bind, run_underlying Try.underlying3 w]; rfl
  show (Op.equalIn (9999 + 1) 37 _ _).run Try.prog w = _
  rw [run_equalIn_agg w 9999 37 _ _ (by kernel_rfl) hs, hf]
  simp only [Op.eqFields, List.toList_toArray]
  simp [part, Sem.run_bind, ha, run_equalIn_int w 9998 3 .i64 .i64 _ _ Try.underlying3, Op.eqFields]
  by_cases h1 : a = c <;> by_cases h2 : b = d <;> simp [h1, h2, part, Sem.run_bind, ha, run_equalIn_int w 9998 3 .i64 .i64 _ _ Try.underlying3, Op.eqFields]
theorem nilZ {σ : World} {F : List Res} {a : Option Addr} {c : Nat} : Sl σ F encZ 1 (.slice a ([] : List Int).length c) [] := ⟨fun w _ => ⟨by simp, by simp, .inl ⟨a, c, rfl, rfl⟩⟩, by simp [maxLen]⟩
theorem bothR_all {k : SK} {lo hi : Int} {f : Int → Int} (h : hi - lo ≤ 1024) : bothR k lo hi (fun s => (f s, 0)) = ⟨k, lo, (slots lo hi).map f, 0⟩ := by
  unfold bothR
  rw [if_neg (by omega), List.find?_eq_none.2 (fun q hq => by simp)]
theorem slots_all {lo : Int} {L : List Int} {f : Int → Int} (h : ∀ (i : Nat) (y : Int), L[i]? = some y → f (lo + i) = y) : (slots lo (lo + L.length)).map f = L := by
  apply List.ext_getElem?
  intro i
  rw [List.getElem?_map]
  by_cases hi : i < L.length
  · obtain ⟨y, hy⟩ := getE hi
    have h1 := slots_get (lo := lo) (hi := lo + L.length) (s := lo + i) (by omega) (by omega)
    rw [show (lo + (i : Int) - lo).toNat = i by omega] at h1
    rw [h1, hy, Option.map_some, h i y hy]
  · rw [List.getElem?_eq_none (by rw [slots_len]; omega), List.getElem?_eq_none (by omega)]; rfl
theorem sameK_refl (k : SK) : sameK k k := sameK_eq.2 rfl
theorem oneR_both {k : SK} {fr : Int} {l : List Int} {k' : SK} {fr' : Int} {m : List Int} (h1 : l.length ≠ 0) (h2 : m.length ≠ 0) : ¬ (oneR k fr l k' fr' m).2 = true := by
  unfold oneR; rw [if_neg h2, if_neg h1]; simp
theorem slots_nil {lo hi : Int} (h : hi ≤ lo) : slots lo hi = [] := by unfold slots; rw [show (hi - lo).toNat = 0 by omega]; rfl
theorem at_take {L : List Int} {fr : Int} {n i : Nat} {y : Int} (hn : n ≤ L.length) (hi : i < n) (hy : L[i]? = some y) : atV (L.take n) fr (fr + i) = y := by
  unfold atV
  rw [if_pos (by rw [List.length_take]; omega), show (fr + (i : Int) - fr).toNat = i by omega, List.getD_eq_getElem?_getD, List.getElem?_take, if_pos hi, hy]; rfl
theorem at_drop {L : List Int} {fr : Int} {n i : Nat} {y : Int} (hi : n ≤ i) (hy : L[i]? = some y) : atV (L.drop n) (fr + n) (fr + i) = y := by
  have hlt := ltE hy
  unfold atV
  rw [if_pos (by rw [List.length_drop]; omega), show (fr + (i : Int) - (fr + n)).toNat = i - n by omega, List.getD_eq_getElem?_getD, List.getElem?_drop, show n + (i - n) = i by omega, hy]; rfl
theorem join_split1 {k : SK} {fr : Int} {L : List Int} {n : Nat} (h0 : 0 < n) (h1 : n < L.length) (h2 : L.length ≤ 1024) : joinR k fr (L.take n) k (fr + n) (L.drop n) = ⟨k, fr, L, 0⟩ := by
  have hl1 : (L.take n).length = n := by rw [List.length_take]; omega
  have hl2 : (L.drop n).length = L.length - n := by rw [List.length_drop]
  unfold joinR
  rw [if_neg (fun h => h (sameK_refl k)), if_neg (oneR_both (by omega) (by omega)), if_neg (by omega), slots_nil (by omega), if_neg (by simp), show min fr (fr + (n : Int)) = fr by omega,
    show max (fr + (L.take n).length) (fr + n + (L.drop n).length) = fr + L.length by omega, bothR_all (by omega), slots_all]
  intro i y hy
  have hlt := ltE hy
  unfold joinV
  by_cases hi : i < n
  · rw [if_pos (by omega)]; exact at_take (by omega) hi hy
  · rw [if_neg (by omega)]; exact at_drop (by omega) hy
theorem join_split2 {k : SK} {fr : Int} {L : List Int} {n : Nat} (h0 : 0 < n) (h1 : n < L.length) (h2 : L.length ≤ 1024) : joinR k (fr + n) (L.drop n) k fr (L.take n) = ⟨k, fr, L, 0⟩ := by
  have hl1 : (L.take n).length = n := by rw [List.length_take]; omega
  have hl2 : (L.drop n).length = L.length - n := by rw [List.length_drop]
  unfold joinR
  rw [if_neg (fun h => h (sameK_refl k)), if_neg (oneR_both (by omega) (by omega)), if_neg (by omega), slots_nil (by omega), if_neg (by simp), show min (fr + (n : Int)) fr = fr by omega,
    show max (fr + n + (L.drop n).length) (fr + (L.take n).length) = fr + L.length by omega, bothR_all (by omega), slots_all]
  intro i y hy
  have hlt := ltE hy
  unfold joinV
  by_cases hi : i < n
  · rw [if_neg (by omega)]; exact at_take (by omega) hi hy
  · rw [if_pos (by omega)]; exact at_drop (by omega) hy
set_option maxHeartbeats 2000000 in
set_option maxRecDepth 100000 in
theorem lawWindows_any {σ : World} {F : List Res} {a : Option Addr} {c : Nat} {l : List Int} (x0 x1 x2 x3 x4 p q x : Int) (h : Sl σ F encY 1 (.slice a l.length c) l) (hb : ∀ x ∈ l, 0 ≤ x ∧ x ≤ 255) (h0 : 0 ≤ x0 ∧ x0 ≤ 255) (h1 : 0 ≤ x1 ∧ x1 ≤ 255) (h2 : 0 ≤ x2 ∧ x2 ≤ 255) (h3 : 0 ≤ x3 ∧ x3 ≤ 255) (h4 : 0 ≤ x4 ∧ x4 ≤ 255) (hp : -9223372036854775808 ≤ p ∧ p ≤ 9223372036854775807) (hq : -9223372036854775808 ≤ q ∧ q ≤ 9223372036854775807) (hx : -9223372036854775808 ≤ x ∧ x ≤ 9223372036854775807) :
    FnT Try.prog σ F 12 [.agg #[.int .u8 x0, .int .u8 x1, .int .u8 x2, .int .u8 x3, .int .u8 x4, .slice a l.length c], .agg #[.int .i64 p, .int .i64 q], .int .i64 x] [] (fun u ρ => u = .bool true ∧ ρ = []) := by
  refine fn_of 157 Try.func12 rfl Try.ntmps12 rfl ?_
  have hlt : (l.take 30).length ≤ 30 := by rw [List.length_take]; omega
  refine w_seq ?_
  refine w_region ?_
  refine wl_op [] rfl rfl rfl rfl (op_box (T := 46) (l := 3) rfl) ?_
  rintro _ _ ⟨b3, rfl, rfl⟩
  refine wl_op [] rfl rfl rfl rfl (op_box (T := 37) (l := 4) rfl) ?_
  rintro _ _ ⟨b4, rfl, rfl⟩
  refine wl_det rfl rfl rfl (op_assign rfl) ?_
  refine wl_nil ?_
  refine st_tn ?_
  refine w_seq ?_
  refine w_region ?_
  refine wl_det rfl rfl rfl (op_loadA rfl tA46n (Ent.lab (l := 3) rfl (says_cel 0)) (Nat.le_of_ble_eq_true rfl)) ?_
  refine wl_op [] rfl rfl rfl rfl (op_fn Try.func20 rfl rfl rfl (series_any 24 _ _ _ _ _ (by first | exact Sl.app (by assumption) _ | exact Sl.app (Sl.app (by assumption) _) _) (by assumption) (by assumption) (by assumption) (by assumption) (by assumption) (by assumption))) ?_
  rintro _ _ ⟨a24, c24, rfl, rfl⟩
  refine wl_op [] rfl rfl rfl rfl (op_alloc (l := 7) tN48n) ?_
  rintro _ _ ⟨b7, rfl, rfl⟩
  refine wl_op0 [7] rfl rfl rfl (op_store rfl rfl tZ48n (by rfl) (by rfl) (by exact Nat.le_of_ble_eq_true rfl)) ?_
  rintro _ _ ⟨rfl, rfl⟩
  refine wl_nil ?_
  refine st_tn ?_
  refine w_seq ?_
  generalize kG x0 x1 x2 x3 = k at *
  have hfr : 0 ≤ x4 % 40 ∧ x4 % 40 ≤ 40 := by omega
  generalize x4 % 40 = fr at *
  generalize l.take 30 = L at *
  refine w_region ?_
  refine wl_det rfl rfl rfl (op_loadA rfl tA48n (Ent.lab (l := 7) rfl (says_cel 0)) (Nat.le_of_ble_eq_true rfl)) ?_
  refine wl_det rfl rfl rfl (op_loadA rfl tA37n (Ent.lab (l := 4) rfl (says_cel 0)) (Nat.le_of_ble_eq_true rfl)) ?_
  refine wl_op [] rfl rfl rfl rfl (op_fn Try.func42 rfl rfl rfl (window_any 27 _ _ _ _ (Sl.lab 24 rfl (by first | (simp [maxLen]; done) | (unfold maxLen; omega))) (by omega) (by omega) (by omega) (by omega))) ?_
  rintro _ _ ⟨m27, a27, c27, hm27, rfl, rfl⟩
  refine wl_op [] rfl rfl rfl rfl (op_alloc (l := 8) tN48n) ?_
  rintro _ _ ⟨b8, rfl, rfl⟩
  refine wl_op0 [8] rfl rfl rfl (op_store rfl rfl tZ48n (by rfl) (by rfl) (by exact Nat.le_of_ble_eq_true rfl)) ?_
  rintro _ _ ⟨rfl, rfl⟩
  refine wl_nil ?_
  refine st_tn ?_
  refine w_seq ?_
  have hml : m27.length ≤ 30 := by rw [hm27]; unfold winL; split; (· simp); (· rw [List.length_drop, List.length_take]; omega)
  refine w_region ?_
  refine wl_det rfl rfl rfl (op_loadA rfl tA48n (Ent.lab (l := 7) rfl (says_cel 0)) (Nat.le_of_ble_eq_true rfl)) ?_
  refine wl_op [] rfl rfl rfl rfl (op_alloc (l := 9) tN48n) ?_
  rintro _ _ ⟨b9, rfl, rfl⟩
  refine wl_op0 [9] rfl rfl rfl (op_store rfl rfl tZ48n (by rfl) (by rfl) (by exact Nat.le_of_ble_eq_true rfl)) ?_
  rintro _ _ ⟨rfl, rfl⟩
  refine wl_nil ?_
  refine st_tn ?_
  refine w_seq ?_
  refine w_drawW (fun β => [⟨29, [], [], [], noW (_), false, [], []⟩, ⟨30, [0], [], [], noW (_), false, [], []⟩, ⟨31, [], [], [], noW (_), false, [], []⟩, ⟨32, [2], [], [], noW (_), false, [], []⟩, ⟨33, [1, 3], [], [], noW (_), false, [], []⟩, ⟨34, [], [], [], noW (_), false, [], []⟩, ⟨35, [5], [], [], noW (_), false, [], []⟩, ⟨36, [], [], [], noW (_), false, [], []⟩, ⟨37, [7], [], [], noW (_), false, [], []⟩, ⟨38, [8], [], [], noW (_), false, [], []⟩, ⟨39, [6, 9], [], [], noW (_), false, [], []⟩, ⟨40, [], [], [], noW (_), false, [], []⟩, ⟨41, [11], [], [], noW (_), false, [], []⟩, ⟨42, [10, 12], [], [], noW (_), false, [], []⟩, ⟨10, [4], [], [], noW (_), false, [], []⟩]) [] [7, 4] [⟨29, [], [], false, [], []⟩, ⟨30, [0], [], false, [], []⟩, ⟨31, [], [], false, [], []⟩, ⟨32, [2], [], false, [], []⟩, ⟨33, [1, 3], [], false, [], []⟩, ⟨34, [], [], false, [], []⟩, ⟨35, [5], [], false, [], []⟩, ⟨36, [], [], false, [], []⟩, ⟨37, [7], [], false, [], []⟩, ⟨38, [8], [], false, [], []⟩, ⟨39, [6, 9], [], false, [], []⟩, ⟨40, [], [], false, [], []⟩, ⟨41, [11], [], false, [], []⟩, ⟨42, [10, 12], [], false, [], []⟩, ⟨10, [4], [], false, [], []⟩] [[], [], [], [], [], [], [], [], [], [], [], [], [], [], []] [[], [], [], [], [], [], [], [], [], [], [], [], [], [], []] tMixn (fun _ => by rfl) (fun _ => by rfl) (by kernel_rfl) (by kernel_rfl) (by rfl) (by rfl)
      (fun β => ⟨.p rfl (by intro X; exact op_fieldAddr (off := 5) rfl tF48_4n),
      ⟨.p rfl (by intro X; rintro _ _ ⟨rfl, rfl⟩; exact op_load1 rfl tO3n (Ent.lab (l := 7) rfl (says_cel 5))),
      ⟨.p rfl (by intro X; exact op_fieldAddr (off := 0) rfl tF37_0n),
      ⟨.p rfl (by intro X; rintro _ _ ⟨rfl, rfl⟩; exact op_load1 rfl tO3n (Ent.lab (l := 4) rfl (says_cel 0))),
      ⟨.p rfl (by intro X; rintro _ _ ⟨rfl, rfl⟩ _ _ ⟨rfl, rfl⟩; exact op_max rfl rfl),
      ⟨.p rfl (by intro X; exact op_fieldAddr (off := 5) rfl tF48_4n),
      ⟨.p rfl (by intro X; rintro _ _ ⟨rfl, rfl⟩; exact op_load1 rfl tO3n (Ent.lab (l := 7) rfl (says_cel 5))),
      ⟨.p rfl (by intro X; exact op_fieldAddr (off := 6) rfl tF48_5n),
      ⟨.p rfl (by intro X; rintro _ _ ⟨rfl, rfl⟩; exact op_load1 rfl tO25n (Ent.lab (l := 7) rfl (says_cel 6))),
      ⟨.p rfl (by intro X; rintro _ _ ⟨rfl, rfl⟩; exact op_lenT rfl tS25n (Sl.ent (Sl.lab 24 rfl (by first | (simp [maxLen]; done) | (unfold maxLen; omega))))),
      ⟨.p rfl (by intro X; rintro _ _ ⟨rfl, rfl⟩ _ _ ⟨rfl, rfl⟩; exact op_add' rfl rfl (by omega)),
      ⟨.p rfl (by intro X; exact op_fieldAddr (off := 1) rfl tF37_1n),
      ⟨.p rfl (by intro X; rintro _ _ ⟨rfl, rfl⟩; exact op_load1 rfl tO3n (Ent.lab (l := 4) rfl (says_cel 1))),
      ⟨.p rfl (by intro X; rintro _ _ ⟨rfl, rfl⟩ _ _ ⟨rfl, rfl⟩; exact op_min rfl rfl),
      ⟨.p rfl (by intro X; rintro _ _ ⟨rfl, rfl⟩; exact op_assign rfl),
      trivial⟩⟩⟩⟩⟩⟩⟩⟩⟩⟩⟩⟩⟩⟩⟩)
      (fun β β' => ⟨fun _ => by rfl, ⟨fun _ => by rfl, ⟨fun _ => by rfl, ⟨fun _ => by rfl, ⟨fun _ => by rfl, ⟨fun _ => by rfl, ⟨fun _ => by rfl, ⟨fun _ => by rfl, ⟨fun _ => by rfl, ⟨fun _ => by rfl, ⟨fun _ => by rfl, ⟨fun _ => by rfl, ⟨fun _ => by rfl, ⟨fun _ => by rfl, ⟨fun _ => by rfl, trivial⟩⟩⟩⟩⟩⟩⟩⟩⟩⟩⟩⟩⟩⟩⟩) ?_
  intro β
  rintro _ _ ⟨rfl, rfl⟩ _ _ ⟨rfl, rfl⟩ _ _ ⟨rfl, rfl⟩ _ _ ⟨rfl, rfl⟩ _ _ ⟨rfl, rfl⟩ _ _ ⟨rfl, rfl⟩ _ _ ⟨rfl, rfl⟩ _ _ ⟨rfl, rfl⟩ _ _ ⟨rfl, rfl⟩ _ _ ⟨rfl, rfl⟩ _ _ ⟨rfl, rfl⟩ _ _ ⟨rfl, rfl⟩ _ _ ⟨rfl, rfl⟩ _ _ ⟨rfl, rfl⟩ _ _ ⟨rfl, rfl⟩
  refine wl_norm (e' := [(2, _), (7, _), (8, _), (9, _), (10, _), (42, _)]) (.cons rfl (.cons rfl (.cons rfl (.cons rfl (.cons rfl (.cons rfl (.nil _))))))) (by dsimp only [cond_false, cond_true, List.nil_append, List.cons_append]) ?_
  refine wl_det rfl rfl rfl (op_assign rfl) ?_
  refine wl_nil ?_
  refine st_tn ?_
  refine w_seq ?_
  refine w_region ?_
  refine wl_det rfl rfl rfl (op_fieldAddr (off := 6) rfl tF48_5n) ?_
  refine wl_op0 [9] rfl rfl rfl (op_store rfl rfl tZ25n (by rfl) (by rfl) (by exact Nat.le_of_ble_eq_true rfl)) ?_
  rintro _ _ ⟨rfl, rfl⟩
  refine wl_nil ?_
  refine st_tn ?_
  refine w_seq ?_
  refine w_seq ?_
  refine w_region ?_
  refine wl_det rfl rfl rfl (op_move rfl) ?_
  refine wl_det rfl rfl rfl (op_move rfl) ?_
  refine wl_det rfl rfl rfl (op_lss rfl rfl) ?_
  refine wl_nil ?_
  refine st_tn ?_
  refine w_cond_d rfl (fun hc46 => ?_) (fun hc46 => ?_)
  · -- c46.t
    have hlo : (max fr p - fr).toNat ≤ (min (fr + L.length) q - fr).toNat := by omega
    have hhi : (min (fr + L.length) q - fr).toNat ≤ L.length := by omega
    refine w_drawW (fun β => [⟨47, [], [], [], noW (_), false, [], []⟩, ⟨48, [], [], [], noW (_), false, [], []⟩, ⟨49, [1], [], [], noW (_), false, [], []⟩, ⟨50, [], [], [], noW (_), false, [], []⟩, ⟨51, [], [], [], noW (_), false, [], []⟩, ⟨52, [4], [], [], noW (_), false, [], []⟩, ⟨53, [3, 5], [], [], noW (_), false, [], []⟩, ⟨54, [], [], [], noW (_), false, [], []⟩, ⟨55, [], [], [], noW (_), false, [], []⟩, ⟨56, [8], [], [], noW (_), false, [], []⟩, ⟨57, [7, 9], [], [], noW (_), false, [], []⟩, ⟨58, [2, 6, 10], [], [], noW (_), false, [], []⟩, ⟨59, [], [], [], noW (_), false, [], []⟩, ⟨170, [12, 0], [], [(9, _)], noW (_), false, [], []⟩]) [9] [10, 7, 11, 9] [⟨47, [], [], false, [], []⟩, ⟨48, [], [], false, [], []⟩, ⟨49, [1], [], false, [], []⟩, ⟨50, [], [], false, [], []⟩, ⟨51, [], [], false, [], []⟩, ⟨52, [4], [], false, [], []⟩, ⟨53, [3, 5], [], false, [], []⟩, ⟨54, [], [], false, [], []⟩, ⟨55, [], [], false, [], []⟩, ⟨56, [8], [], false, [], []⟩, ⟨57, [7, 9], [], false, [], []⟩, ⟨58, [2, 6, 10], [], false, [], []⟩, ⟨59, [], [], false, [], []⟩, ⟨170, [12, 0], [], false, [], []⟩] [[], [], [], [], [], [], [], [], [], [], [], [], [], []] [[], [], [], [], [], [], [], [], [], [], [], [], [], [(9, _)]] tMixn (fun _ => by rfl) (fun _ => by rfl) (by kernel_rfl) (by kernel_rfl) (by rfl) (by rfl)
        (fun β => ⟨.p rfl (by intro X; exact op_move rfl),
        ⟨.p rfl (by intro X; exact op_fieldAddr (off := 6) rfl tF48_5n),
        ⟨.p rfl (by intro X; rintro _ _ ⟨rfl, rfl⟩; exact op_load1 rfl tO25n (Ent.lab (l := 7) rfl (says_cel 6))),
        ⟨.p rfl (by intro X; exact op_move rfl),
        ⟨.p rfl (by intro X; exact op_fieldAddr (off := 5) rfl tF48_4n),
        ⟨.p rfl (by intro X; rintro _ _ ⟨rfl, rfl⟩; exact op_load1 rfl tO3n (Ent.lab (l := 7) rfl (says_cel 5))),
        ⟨.p rfl (by intro X; rintro _ _ ⟨rfl, rfl⟩ _ _ ⟨rfl, rfl⟩; exact op_val (v' := .int .i64 ((max fr p - fr).toNat : Int)) (by congr 1; omega) (op_sub' rfl rfl (by omega))),
        ⟨.p rfl (by intro X; exact op_move rfl),
        ⟨.p rfl (by intro X; exact op_fieldAddr (off := 5) rfl tF48_4n),
        ⟨.p rfl (by intro X; rintro _ _ ⟨rfl, rfl⟩; exact op_load1 rfl tO3n (Ent.lab (l := 7) rfl (says_cel 5))),
        ⟨.p rfl (by intro X; rintro _ _ ⟨rfl, rfl⟩ _ _ ⟨rfl, rfl⟩; exact op_val (v' := .int .i64 ((min (fr + L.length) q - fr).toNat : Int)) (by congr 1; omega) (op_sub' rfl rfl (by omega))),
        ⟨.p rfl (by intro X; rintro _ _ ⟨rfl, rfl⟩ _ _ ⟨rfl, rfl⟩ _ _ ⟨rfl, rfl⟩; exact op_val (v' := .slice (SL.sub a24 c24 (max fr p - fr).toNat 1) ((L.take (min (fr + L.length) q - fr).toNat).drop (max fr p - fr).toNat).length (c24 - (max fr p - fr).toNat)) (by congr 1; rw [List.length_drop, List.length_take]; omega) (op_slice rfl rfl rfl tS25n (Sl.lab 24 rfl (by first | (simp [maxLen]; done) | (unfold maxLen; omega))) (by omega) (by omega))),
        ⟨.p rfl (by intro X; exact op_fieldAddr (off := 5) rfl tF48_4n),
        ⟨.p rfl (by intro X; rintro _ _ ⟨rfl, rfl⟩ _ _ ⟨rfl, rfl⟩; exact op_store rfl rfl tZ3n (by rfl) (by rfl) (by exact Nat.le_of_ble_eq_true rfl)) (hu := by exact .inr fun _ _ h => h.1),
        trivial⟩⟩⟩⟩⟩⟩⟩⟩⟩⟩⟩⟩⟩⟩)
        (fun β β' => ⟨fun _ => by rfl, ⟨fun _ => by rfl, ⟨fun _ => by rfl, ⟨fun _ => by rfl, ⟨fun _ => by rfl, ⟨fun _ => by rfl, ⟨fun _ => by rfl, ⟨fun _ => by rfl, ⟨fun _ => by rfl, ⟨fun _ => by rfl, ⟨fun _ => by rfl, ⟨fun _ => by rfl, ⟨fun _ => by rfl, ⟨fun _ => by rfl, trivial⟩⟩⟩⟩⟩⟩⟩⟩⟩⟩⟩⟩⟩⟩) ?_
    intro β
    rintro _ _ ⟨rfl, rfl⟩ _ _ ⟨rfl, rfl⟩ _ _ ⟨rfl, rfl⟩ _ _ ⟨rfl, rfl⟩ _ _ ⟨rfl, rfl⟩ _ _ ⟨rfl, rfl⟩ _ _ ⟨rfl, rfl⟩ _ _ ⟨rfl, rfl⟩ _ _ ⟨rfl, rfl⟩ _ _ ⟨rfl, rfl⟩ _ _ ⟨rfl, rfl⟩ _ _ ⟨rfl, rfl⟩ _ _ ⟨rfl, rfl⟩ _ _ ⟨rfl, rfl⟩
    refine wl_norm (e' := [(2, _), (7, _), (8, _), (9, _), (58, _)]) (.cons rfl (.cons rfl (.cons rfl (.cons rfl (.cons rfl (.nil _)))))) (by dsimp only [cond_false, cond_true, List.nil_append, List.cons_append]) ?_
    refine wl_det rfl rfl rfl (op_fieldAddr (off := 6) rfl tF48_5n) ?_
    refine wl_op0 [9] rfl rfl rfl (op_store rfl rfl tZ25n (by rfl) (by rfl) (by exact Nat.le_of_ble_eq_true rfl)) ?_
    rintro _ _ ⟨rfl, rfl⟩
    refine wl_nil ?_
    refine st_tn ?_
    refine w_seq ?_
    refine w_region ?_
    refine wl_det rfl rfl rfl (op_loadA rfl tA48n (Ent.lab (l := 7) rfl (says_cel 0)) (Nat.le_of_ble_eq_true rfl)) ?_
    refine wl_det rfl rfl rfl (op_move rfl) ?_
    refine wl_det rfl rfl rfl (op_fn Try.func43 rfl rfl rfl (at_any _ _ _ (Sl.lab 24 rfl (by first | (simp [maxLen]; done) | (unfold maxLen; omega))) (by omega) (by omega) (by omega))) ?_
    refine wl_det rfl rfl rfl (op_move rfl) ?_
    refine wl_det rfl rfl rfl (op_extract rfl rfl) ?_
    refine wl_det rfl rfl rfl (op_extract rfl rfl) ?_
    refine wl_det rfl rfl rfl (op_assign rfl) ?_
    refine wl_det rfl rfl rfl (op_assign rfl) ?_
    refine wl_nil ?_
    refine st_tn ?_
    refine w_seq ?_
    refine w_region ?_
    refine wl_det rfl rfl rfl (op_loadA rfl tA48n (Ent.lab (l := 7) rfl (says_cel 0)) (Nat.le_of_ble_eq_true rfl)) ?_
    refine wl_det rfl rfl rfl (op_move rfl) ?_
    refine wl_det rfl rfl rfl (op_fn Try.func44 rfl rfl rfl (lat_any _ _ _ (Sl.lab 24 rfl (by first | (simp [maxLen]; done) | (unfold maxLen; omega))) (by omega) (by omega) (by omega))) ?_
    refine wl_det rfl rfl rfl (op_move rfl) ?_
    refine wl_det rfl rfl rfl (op_extract rfl rfl) ?_
    refine wl_det rfl rfl rfl (op_extract rfl rfl) ?_
    refine wl_det rfl rfl rfl (op_assign rfl) ?_
    refine wl_det rfl rfl rfl (op_assign rfl) ?_
    refine wl_nil ?_
    refine st_tn ?_
    refine w_seq ?_
    refine w_seq ?_
    refine w_drawW (fun β => (⟨73, [], [], [], noW (_), false, [], []⟩ :: ⟨74, [0], [], [], noW (_), false, [], []⟩ :: ⟨75, [1], [], [], noW (_), false, [], []⟩ :: ⟨76, [], [], [], noW (_), false, [], []⟩ :: ⟨77, [], [], [], noW (_), false, [], []⟩ :: ⟨78, [3, 4], [], [], noW (_), false, [], []⟩ :: ⟨79, [5], [], [], noW (_), false, [], []⟩ :: ⟨80, [2, 6], [], [], noW (_), false, [], []⟩ :: ⟨81, [7], [], [], noW (_), false, [], []⟩ :: ⟨82, [], [], [], noW (_), false, [], []⟩ :: ⟨83, [], [], [], noW (_), false, [], []⟩ :: ⟨84, [9, 10], [], [], noW (_), false, [], []⟩ :: ⟨85, [8, 11], [], [], noW (_), false, [], []⟩ :: ⟨86, [12], [], [], noW (_), false, [], []⟩ :: ⟨87, [], [], [], noW (_), false, [], []⟩ :: ⟨88, [], [], [], noW (_), false, [], []⟩ :: ⟨89, [14, 15], [], [], noW (_), false, [], []⟩ :: ⟨90, [13, 16], [], [], noW (_), false, [], []⟩ :: ⟨91, [17], [], [], noW (_), false, [], []⟩ :: ⟨92, [], [], [], noW (_), false, [], []⟩ :: ⟨93, [19], [], [], noW (_), false, [], []⟩ :: ⟨94, [], [], [], noW (_), false, [], []⟩ :: ⟨95, [21], [], [], noW (_), false, [], []⟩ :: ⟨96, [], [], [], noW (_), false, [], []⟩ :: ⟨97, [23], [], [], noW (_), false, [], []⟩ :: ⟨98, [], [], [], noW (_), false, [], []⟩ :: ⟨99, [25], [], [], noW (_), false, [], []⟩ :: ⟨100, [26], [], [], noW (_), false, [], []⟩ :: ⟨101, [24, 27], [], [], noW (_), false, [], []⟩ :: ⟨102, [22, 28], [], [], noW (_), false, [], []⟩ :: ⟨103, [20, 29], [], [], noW (_), false, [], []⟩ :: ⟨104, [18, 30], [], [], noW (_), false, [], []⟩ :: [])) [] [8, 9, 12, 14, 13, 15, 7] (⟨73, [], [], false, [], []⟩ :: ⟨74, [0], [], false, [], []⟩ :: ⟨75, [1], [], false, [], []⟩ :: ⟨76, [], [], false, [], []⟩ :: ⟨77, [], [], false, [], []⟩ :: ⟨78, [3, 4], [], false, [], []⟩ :: ⟨79, [5], [], false, [], []⟩ :: ⟨80, [2, 6], [], false, [], []⟩ :: ⟨81, [7], [], false, [], []⟩ :: ⟨82, [], [], false, [], []⟩ :: ⟨83, [], [], false, [], []⟩ :: ⟨84, [9, 10], [], false, [], []⟩ :: ⟨85, [8, 11], [], false, [], []⟩ :: ⟨86, [12], [], false, [], []⟩ :: ⟨87, [], [], false, [], []⟩ :: ⟨88, [], [], false, [], []⟩ :: ⟨89, [14, 15], [], false, [], []⟩ :: ⟨90, [13, 16], [], false, [], []⟩ :: ⟨91, [17], [], false, [], []⟩ :: ⟨92, [], [], false, [], []⟩ :: ⟨93, [19], [], false, [], []⟩ :: ⟨94, [], [], false, [], []⟩ :: ⟨95, [21], [], false, [], []⟩ :: ⟨96, [], [], false, [], []⟩ :: ⟨97, [23], [], false, [], []⟩ :: ⟨98, [], [], false, [], []⟩ :: ⟨99, [25], [], false, [], []⟩ :: ⟨100, [26], [], false, [], []⟩ :: ⟨101, [24, 27], [], false, [], []⟩ :: ⟨102, [22, 28], [], false, [], []⟩ :: ⟨103, [20, 29], [], false, [], []⟩ :: ⟨104, [18, 30], [], false, [], []⟩ :: []) ([] :: [] :: [] :: [] :: [] :: [] :: [] :: [] :: [] :: [] :: [] :: [] :: [] :: [] :: [] :: [] :: [] :: [] :: [] :: [] :: [] :: [] :: [] :: [] :: [] :: [] :: [] :: [] :: [] :: [] :: [] :: [] :: []) ([] :: [] :: [] :: [] :: [] :: [] :: [] :: [] :: [] :: [] :: [] :: [] :: [] :: [] :: [] :: [] :: [] :: [] :: [] :: [] :: [] :: [] :: [] :: [] :: [] :: [] :: [] :: [] :: [] :: [] :: [] :: [] :: []) tMixn (fun _ => by rfl) (fun _ => by rfl) (by kernel_rfl) (by kernel_rfl) (by rfl) (by rfl)
        (fun β => ⟨.p rfl (by intro X; exact op_fn Try.func16 rfl rfl rfl (known_any)),
        ⟨.p rfl (by intro X; rintro _ _ ⟨rfl, rfl⟩; exact op_not_t rfl),
        ⟨.p rfl (by intro X; rintro _ _ ⟨rfl, rfl⟩; exact op_move rfl),
        ⟨.w rfl rfl rfl (by rintro _ _ ⟨rfl, rfl⟩; first | rfl | (exact congrArg Value.bool (decide_eq_true (by omega))) | (exact congrArg Value.bool (decide_eq_false (by omega))) | (simp; done) | (simp; omega) | (simp [*]; done)) (by intro X; exact op_loadA rfl tA48n (Ent.lab (l := 8) rfl (says_cel 0)) (Nat.le_of_ble_eq_true rfl)),
        ⟨.w rfl rfl rfl (by rintro _ _ ⟨rfl, rfl⟩; first | rfl | (exact congrArg Value.bool (decide_eq_true (by omega))) | (exact congrArg Value.bool (decide_eq_false (by omega))) | (simp; done) | (simp; omega) | (simp [*]; done)) (by intro X; exact op_loadA rfl tA48n (Ent.lab (l := 9) rfl (says_cel 0)) (Nat.le_of_ble_eq_true rfl)),
        ⟨.w rfl rfl rfl (by rintro _ _ ⟨rfl, rfl⟩; first | rfl | (exact congrArg Value.bool (decide_eq_true (by omega))) | (exact congrArg Value.bool (decide_eq_false (by omega))) | (simp; done) | (simp; omega) | (simp [*]; done)) (by intro X; rintro _ _ ⟨rfl, rfl⟩ _ _ ⟨rfl, rfl⟩; exact op_val (v' := .bool true) (by exact congrArg Value.bool (decide_eq_true ⟨sameK_refl k, by unfold winF; rw [if_neg (by omega)], by rw [hm27]; unfold winL; rw [if_neg (by omega)]⟩)) (op_fn Try.func27 rfl rfl rfl (lsame_any k k (winF fr L p q) (max fr p) (Sl.lab 27 rfl (by unfold maxLen; omega)) (Sl.sub2 (Sl.lab 24 rfl (by unfold maxLen; omega)) hlo hhi)))),
        ⟨.w rfl rfl rfl (by rintro _ _ ⟨rfl, rfl⟩; first | rfl | (exact congrArg Value.bool (decide_eq_true (by omega))) | (exact congrArg Value.bool (decide_eq_false (by omega))) | (simp; done) | (simp; omega) | (simp [*]; done)) (by intro X; rintro _ _ ⟨rfl, rfl⟩; exact op_not_t rfl),
        ⟨.p rfl (by intro X; rintro _ _ ⟨rfl, rfl⟩ _ _ ⟨rfl, rfl⟩; exact op_pick_f rfl rfl),
        ⟨.p rfl (by intro X; rintro _ _ ⟨rfl, rfl⟩; exact op_move rfl),
        ⟨.w rfl rfl rfl (by rintro _ _ ⟨rfl, rfl⟩; first | rfl | (exact congrArg Value.bool (decide_eq_true (by omega))) | (exact congrArg Value.bool (decide_eq_false (by omega))) | (simp; done) | (simp; omega) | (simp [*]; done)) (by intro X; exact op_move rfl),
        ⟨.w rfl rfl rfl (by rintro _ _ ⟨rfl, rfl⟩; first | rfl | (exact congrArg Value.bool (decide_eq_true (by omega))) | (exact congrArg Value.bool (decide_eq_false (by omega))) | (simp; done) | (simp; omega) | (simp [*]; done)) (by intro X; exact op_move rfl),
        ⟨.w rfl rfl rfl (by rintro _ _ ⟨rfl, rfl⟩; first | rfl | (exact congrArg Value.bool (decide_eq_true (by omega))) | (exact congrArg Value.bool (decide_eq_false (by omega))) | (simp; done) | (simp; omega) | (simp [*]; done)) (by intro X; rintro _ _ ⟨rfl, rfl⟩ _ _ ⟨rfl, rfl⟩; exact op_val (v' := .bool false) (by simp) (op_neq rfl rfl)),
        ⟨.p rfl (by intro X; rintro _ _ ⟨rfl, rfl⟩ _ _ ⟨rfl, rfl⟩; exact op_pick_f rfl rfl),
        ⟨.p rfl (by intro X; rintro _ _ ⟨rfl, rfl⟩; exact op_move rfl),
        ⟨.w rfl rfl rfl (by rintro _ _ ⟨rfl, rfl⟩; first | rfl | (exact congrArg Value.bool (decide_eq_true (by omega))) | (exact congrArg Value.bool (decide_eq_false (by omega))) | (simp; done) | (simp; omega) | (simp [*]; done)) (by intro X; exact op_move rfl),
        ⟨.w rfl rfl rfl (by rintro _ _ ⟨rfl, rfl⟩; first | rfl | (exact congrArg Value.bool (decide_eq_true (by omega))) | (exact congrArg Value.bool (decide_eq_false (by omega))) | (simp; done) | (simp; omega) | (simp [*]; done)) (by intro X; exact op_move rfl),
        ⟨.w rfl rfl rfl (by rintro _ _ ⟨rfl, rfl⟩; first | rfl | (exact congrArg Value.bool (decide_eq_true (by omega))) | (exact congrArg Value.bool (decide_eq_false (by omega))) | (simp; done) | (simp; omega) | (simp [*]; done)) (by intro X; rintro _ _ ⟨rfl, rfl⟩ _ _ ⟨rfl, rfl⟩; exact op_val (v' := .bool false) (by simp) (op_neB rfl rfl Try.underlying4)),
        ⟨.p rfl (by intro X; rintro _ _ ⟨rfl, rfl⟩ _ _ ⟨rfl, rfl⟩; exact op_pick_f rfl rfl),
        ⟨.p rfl (by intro X; rintro _ _ ⟨rfl, rfl⟩; exact op_move rfl),
        ⟨.w rfl rfl rfl (by rintro _ _ ⟨rfl, rfl⟩; first | rfl | (exact congrArg Value.bool (decide_eq_true (by omega))) | (exact congrArg Value.bool (decide_eq_false (by omega))) | (simp; done) | (simp; omega) | (simp [*]; done)) (by intro X; exact op_loadA rfl tA48n (Ent.lab (l := 7) rfl (says_cel 0)) (Nat.le_of_ble_eq_true rfl)),
        ⟨.w rfl rfl rfl (by rintro _ _ ⟨rfl, rfl⟩; first | rfl | (exact congrArg Value.bool (decide_eq_true (by omega))) | (exact congrArg Value.bool (decide_eq_false (by omega))) | (simp; done) | (simp; omega) | (simp [*]; done)) (by intro X; rintro _ _ ⟨rfl, rfl⟩; exact op_fn Try.func45 rfl rfl rfl (slots_any _ _ (Sl.lab 24 rfl (by first | (simp [maxLen]; done) | (unfold maxLen; omega))) (by omega) (by omega))),
        ⟨.w rfl rfl rfl (by rintro _ _ ⟨rfl, rfl⟩; first | rfl | (exact congrArg Value.bool (decide_eq_true (by omega))) | (exact congrArg Value.bool (decide_eq_false (by omega))) | (simp; done) | (simp; omega) | (simp [*]; done)) (by intro X; exact op_fieldAddr (off := 5) rfl tF48_4n),
        ⟨.w rfl rfl rfl (by rintro _ _ ⟨rfl, rfl⟩; first | rfl | (exact congrArg Value.bool (decide_eq_true (by omega))) | (exact congrArg Value.bool (decide_eq_false (by omega))) | (simp; done) | (simp; omega) | (simp [*]; done)) (by intro X; rintro _ _ ⟨rfl, rfl⟩; exact op_load1 rfl tO3n (Ent.lab (l := 7) rfl (says_cel 5))),
        ⟨.w rfl rfl rfl (by rintro _ _ ⟨rfl, rfl⟩; first | rfl | (exact congrArg Value.bool (decide_eq_true (by omega))) | (exact congrArg Value.bool (decide_eq_false (by omega))) | (simp; done) | (simp; omega) | (simp [*]; done)) (by intro X; exact op_fieldAddr (off := 5) rfl tF48_4n),
        ⟨.w rfl rfl rfl (by rintro _ _ ⟨rfl, rfl⟩; first | rfl | (exact congrArg Value.bool (decide_eq_true (by omega))) | (exact congrArg Value.bool (decide_eq_false (by omega))) | (simp; done) | (simp; omega) | (simp [*]; done)) (by intro X; rintro _ _ ⟨rfl, rfl⟩; exact op_load1 rfl tO3n (Ent.lab (l := 7) rfl (says_cel 5))),
        ⟨.w rfl rfl rfl (by rintro _ _ ⟨rfl, rfl⟩; first | rfl | (exact congrArg Value.bool (decide_eq_true (by omega))) | (exact congrArg Value.bool (decide_eq_false (by omega))) | (simp; done) | (simp; omega) | (simp [*]; done)) (by intro X; exact op_fieldAddr (off := 6) rfl tF48_5n),
        ⟨.w rfl rfl rfl (by rintro _ _ ⟨rfl, rfl⟩; first | rfl | (exact congrArg Value.bool (decide_eq_true (by omega))) | (exact congrArg Value.bool (decide_eq_false (by omega))) | (simp; done) | (simp; omega) | (simp [*]; done)) (by intro X; rintro _ _ ⟨rfl, rfl⟩; exact op_load1 rfl tO25n (Ent.lab (l := 7) rfl (says_cel 6))),
        ⟨.w rfl rfl rfl (by rintro _ _ ⟨rfl, rfl⟩; first | rfl | (exact congrArg Value.bool (decide_eq_true (by omega))) | (exact congrArg Value.bool (decide_eq_false (by omega))) | (simp; done) | (simp; omega) | (simp [*]; done)) (by intro X; rintro _ _ ⟨rfl, rfl⟩; exact op_lenT rfl tS25n (Sl.ent (Sl.lab 24 rfl (by first | (simp [maxLen]; done) | (unfold maxLen; omega))))),
        ⟨.w rfl rfl rfl (by rintro _ _ ⟨rfl, rfl⟩; first | rfl | (exact congrArg Value.bool (decide_eq_true (by omega))) | (exact congrArg Value.bool (decide_eq_false (by omega))) | (simp; done) | (simp; omega) | (simp [*]; done)) (by intro X; rintro _ _ ⟨rfl, rfl⟩ _ _ ⟨rfl, rfl⟩; exact op_add' rfl rfl (by omega)),
        ⟨.w rfl rfl rfl (by rintro _ _ ⟨rfl, rfl⟩; first | rfl | (exact congrArg Value.bool (decide_eq_true (by omega))) | (exact congrArg Value.bool (decide_eq_false (by omega))) | (simp; done) | (simp; omega) | (simp [*]; done)) (by intro X; rintro _ _ ⟨rfl, rfl⟩ _ _ ⟨rfl, rfl⟩; exact op_build tB37n rfl rfl),
        ⟨.w rfl rfl rfl (by rintro _ _ ⟨rfl, rfl⟩; first | rfl | (exact congrArg Value.bool (decide_eq_true (by omega))) | (exact congrArg Value.bool (decide_eq_false (by omega))) | (simp; done) | (simp; omega) | (simp [*]; done)) (by intro X; rintro _ _ ⟨rfl, rfl⟩ _ _ ⟨rfl, rfl⟩; exact op_val (v' := .bool false) (by simp) (op_neA rfl rfl tG37n (eq37 _ _ _ _))),
        ⟨.p rfl (by intro X; rintro _ _ ⟨rfl, rfl⟩ _ _ ⟨rfl, rfl⟩; exact op_pick_f rfl rfl),
        trivial⟩⟩⟩⟩⟩⟩⟩⟩⟩⟩⟩⟩⟩⟩⟩⟩⟩⟩⟩⟩⟩⟩⟩⟩⟩⟩⟩⟩⟩⟩⟩⟩)
        (fun β β' => ⟨fun _ => by rfl, ⟨fun _ => by rfl, ⟨fun _ => by rfl, ⟨fun _ => by rfl, ⟨fun _ => by rfl, ⟨fun _ => by rfl, ⟨fun _ => by rfl, ⟨fun _ => by rfl, ⟨fun _ => by rfl, ⟨fun _ => by rfl, ⟨fun _ => by rfl, ⟨fun _ => by rfl, ⟨fun _ => by rfl, ⟨fun _ => by rfl, ⟨fun _ => by rfl, ⟨fun _ => by rfl, ⟨fun _ => by rfl, ⟨fun _ => by rfl, ⟨fun _ => by rfl, ⟨fun _ => by rfl, ⟨fun _ => by rfl, ⟨fun _ => by rfl, ⟨fun _ => by rfl, ⟨fun _ => by rfl, ⟨fun _ => by rfl, ⟨fun _ => by rfl, ⟨fun _ => by rfl, ⟨fun _ => by rfl, ⟨fun _ => by rfl, ⟨fun _ => by rfl, ⟨fun _ => by rfl, ⟨fun _ => by rfl, trivial⟩⟩⟩⟩⟩⟩⟩⟩⟩⟩⟩⟩⟩⟩⟩⟩⟩⟩⟩⟩⟩⟩⟩⟩⟩⟩⟩⟩⟩⟩⟩⟩) ?_
    intro β
    rintro _ _ ⟨rfl, rfl⟩ _ _ ⟨rfl, rfl⟩ _ _ ⟨rfl, rfl⟩ _ _ ⟨rfl, rfl⟩ _ _ ⟨rfl, rfl⟩ _ _ ⟨rfl, rfl⟩ _ _ ⟨rfl, rfl⟩ _ _ ⟨rfl, rfl⟩ _ _ ⟨rfl, rfl⟩ _ _ ⟨rfl, rfl⟩ _ _ ⟨rfl, rfl⟩ _ _ ⟨rfl, rfl⟩ _ _ ⟨rfl, rfl⟩ _ _ ⟨rfl, rfl⟩ _ _ ⟨rfl, rfl⟩ _ _ ⟨rfl, rfl⟩ _ _ ⟨rfl, rfl⟩ _ _ ⟨rfl, rfl⟩ _ _ ⟨rfl, rfl⟩ _ _ ⟨rfl, rfl⟩ _ _ ⟨rfl, rfl⟩ _ _ ⟨rfl, rfl⟩ _ _ ⟨rfl, rfl⟩ _ _ ⟨rfl, rfl⟩ _ _ ⟨rfl, rfl⟩ _ _ ⟨rfl, rfl⟩ _ _ ⟨rfl, rfl⟩ _ _ ⟨rfl, rfl⟩ _ _ ⟨rfl, rfl⟩ _ _ ⟨rfl, rfl⟩ _ _ ⟨rfl, rfl⟩ _ _ ⟨rfl, rfl⟩
    refine wl_norm (e' := [(2, _), (7, _), (104, _)]) (.cons rfl (.cons rfl (.cons rfl (.nil _)))) (by dsimp only [cond_false, cond_true, List.nil_append, List.cons_append]) ?_
    refine wl_nil ?_
    refine st_tn ?_
    refine w_cond_f (rfl) ?_
    refine w_skip ?_
    refine st_tn ?_
    refine w_seq ?_
    refine w_region ?_
    refine wl_det rfl rfl rfl (op_loadA rfl tA48n (Ent.lab (l := 7) rfl (says_cel 0)) (Nat.le_of_ble_eq_true rfl)) ?_
    refine wl_det rfl rfl rfl (op_fn Try.func45 rfl rfl rfl (slots_any _ _ (Sl.lab 24 rfl (by first | (simp [maxLen]; done) | (unfold maxLen; omega))) (by omega) (by omega))) ?_
    refine wl_op [] rfl rfl rfl rfl (op_alloc (l := 16) tN37n) ?_
    rintro _ _ ⟨b16, rfl, rfl⟩
    refine wl_op0 [16] rfl rfl rfl (op_store rfl rfl tZ37n (by rfl) (by rfl) (by exact Nat.le_of_ble_eq_true rfl)) ?_
    rintro _ _ ⟨rfl, rfl⟩
    refine wl_nil ?_
    refine st_tn ?_
    refine w_seq ?_
    refine w_seq ?_
    refine w_cutL [(116, .bool (decide (x ≤ fr ∨ x ≥ fr + L.length)))] [2, 7, 16] [3, 4, 24, 7, 27, 8, 9, 16] rfl (fun K' hK => ?_) ?_
    · -- cut r13
      refine w_region ?_
      refine wl_det rfl rfl rfl (op_move rfl) ?_
      refine wl_det rfl rfl rfl (op_fieldAddr (off := 0) rfl tF37_0n) ?_
      refine wl_det rfl rfl rfl (op_load1 rfl tO3n (Ent.lab (l := 16) rfl (says_cel 0))) ?_
      refine wl_det rfl rfl rfl (op_leq rfl rfl) ?_
      refine wl_det rfl rfl rfl (op_move rfl) ?_
      refine wl_gsplit (t := 111) rfl (fun hg111 => ?_) (fun hg111 => ?_)
      · -- 111 is True
        refine wl_unwanted rfl rfl rfl rfl rfl rfl rfl rfl ?_
        refine wl_unwanted rfl rfl rfl rfl rfl rfl rfl rfl ?_
        refine wl_unwanted rfl rfl rfl rfl rfl rfl rfl rfl ?_
        refine wl_unwanted rfl rfl rfl rfl rfl rfl rfl rfl ?_
        refine wl_det rfl rfl rfl (op_pick_t rfl rfl) ?_
        refine wl_nil ?_
        refine st_tn ?_
        exact cut_done1 [3, 4, 24, 7, 27, 8, 9, 16] hK rfl (by first | (rw [decide_eq_decide]; omega) | (symm; rw [decide_eq_false_iff_not]; omega) | (symm; rw [decide_eq_true_iff]; omega) | (simp; done) | (simp; omega) | (simp [*]; done) | (simp [*]; omega)) (by rfl) rfl rfl
      · -- 111 is False
        refine wl_wanted_det rfl rfl rfl rfl rfl rfl rfl (op_move rfl) ?_
        refine wl_wanted_det rfl rfl rfl rfl rfl rfl rfl (op_fieldAddr (off := 1) rfl tF37_1n) ?_
        refine wl_wanted_det rfl rfl rfl rfl rfl rfl rfl (op_load1 rfl tO3n (Ent.lab (l := 16) rfl (says_cel 1))) ?_
        refine wl_wanted_det rfl rfl rfl rfl rfl rfl rfl (op_geq rfl rfl) ?_
        refine wl_det rfl rfl rfl (op_pick_f rfl rfl) ?_
        refine wl_nil ?_
        refine st_tn ?_
        exact cut_done1 [3, 4, 24, 7, 27, 8, 9, 16] hK rfl (by first | (rw [decide_eq_decide]; omega) | (symm; rw [decide_eq_false_iff_not]; omega) | (symm; rw [decide_eq_true_iff]; omega) | (simp; done) | (simp; omega) | (simp [*]; done) | (simp [*]; omega)) (by rfl) rfl rfl
    · -- behind r13
      show W _ _ _ _ _ [(116, _), (2, _), (7, _), (16, _)] [(3, _), (4, _), (24, _), (7, _), (27, _), (8, _), (9, _), (16, _)] _
      refine w_cond_d rfl (fun hc116 => ?_) (fun hc116 => ?_)
      · -- c116.t
        refine w_seq ?_
        refine w_region ?_
        refine wl_det rfl rfl rfl (op_assign rfl) ?_
        refine wl_nil ?_
        refine st_tn ?_
        refine w_ret ?_
        refine st_tr ?_
        refine st_ret (vs := [_]) [] Try.results12 ⟨rfl, trivial⟩ rfl ?_
        refine ⟨_, rfl, ?_⟩
        exact ⟨rfl, rfl⟩
      · -- c116.f
        obtain ⟨n, hn⟩ : ∃ n : Nat, x = fr + n := ⟨(x - fr).toNat, by omega⟩
        have e1 : winF fr L fr x = fr := by unfold winF; split <;> omega
        have e2 : winF fr L x (fr + L.length) = x := by unfold winF; split <;> omega
        have e3 : winL fr L fr x = L.take n := by unfold winL; rw [if_neg (by omega), show (max fr fr - fr).toNat = 0 by omega, show (min (fr + L.length) x - fr).toNat = n by omega]; rfl
        have e4 : winL fr L x (fr + L.length) = L.drop n := by unfold winL; rw [if_neg (by omega), show (max fr x - fr).toNat = n by omega, List.take_of_length_le (by omega)]
        have hn0 : 0 < n := by omega
        have hn1 : n < L.length := by omega
        refine w_skip ?_
        refine st_tn ?_
        refine w_seq ?_
        refine w_drawW (fun β => [⟨117, [], [], [], noW (_), false, [], []⟩, ⟨118, [], [], [], noW (_), false, [], []⟩, ⟨119, [1], [], [], noW (_), false, [], []⟩, ⟨120, [], [], [], noW (_), false, [], []⟩, ⟨121, [2, 3], [], [], noW (_), false, [], []⟩, ⟨122, [0, 4], [], [], fun w => AndW _ (DetW _ _), false, [], []⟩, ⟨123, [], [], [], noW (_), false, [], []⟩, ⟨124, [], [], [], noW (_), false, [], []⟩, ⟨125, [], [], [], noW (_), false, [], []⟩, ⟨126, [8], [], [], noW (_), false, [], []⟩, ⟨127, [7, 9], [], [], noW (_), false, [], []⟩, ⟨128, [6, 10], [], [], fun w => AndW _ (DetW _ _), false, [], []⟩, ⟨17, [], [], [], fun w => DetW _ _, false, [], []⟩, ⟨18, [], [], [], fun w => DetW _ _, false, [], []⟩]) [] [7, 16, 2] [⟨117, [], [], false, [], []⟩, ⟨118, [], [], false, [], []⟩, ⟨119, [1], [], false, [], []⟩, ⟨120, [], [], false, [], []⟩, ⟨121, [2, 3], [], false, [], []⟩, ⟨122, [0, 4], [], false, [], []⟩, ⟨123, [], [], false, [], []⟩, ⟨124, [], [], false, [], []⟩, ⟨125, [], [], false, [], []⟩, ⟨126, [8], [], false, [], []⟩, ⟨127, [7, 9], [], false, [], []⟩, ⟨128, [6, 10], [], false, [], []⟩, ⟨17, [], [], false, [], []⟩, ⟨18, [], [], false, [], []⟩] [[], [], [], [], [], [], [], [], [], [], [], [], [], []] [[], [], [], [], [], [], [], [], [], [], [], [], [], []] tMixn (fun _ => by rfl) (fun _ => by rfl) (by kernel_rfl) (by kernel_rfl) (by rfl) (by rfl)
            (fun β => ⟨.p rfl (by intro X; exact op_loadA rfl tA48n (Ent.lab (l := 7) rfl (says_cel 0)) (Nat.le_of_ble_eq_true rfl)),
            ⟨.p rfl (by intro X; exact op_fieldAddr (off := 0) rfl tF37_0n),
            ⟨.p rfl (by intro X; rintro _ _ ⟨rfl, rfl⟩; exact op_load1 rfl tO3n (Ent.lab (l := 16) rfl (says_cel 0))),
            ⟨.p rfl (by intro X; exact op_move rfl),
            ⟨.p rfl (by intro X; rintro _ _ ⟨rfl, rfl⟩ _ _ ⟨rfl, rfl⟩; exact op_build tB37n rfl rfl),
            ⟨.px rfl (by intro X; rintro _ _ ⟨rfl, rfl⟩ _ _ ⟨rfl, rfl⟩; refine OpT.mono (op_fn Try.func42 rfl rfl rfl (window_any 122 _ _ _ _ (Sl.lab 24 rfl (by first | (simp [maxLen]; done) | (unfold maxLen; omega))) (by omega) (by omega) (by omega) (by omega))) ?_; rintro _ _ ⟨m122, a122, c122, hm122, rfl, rfl⟩; obtain ⟨w, rfl, rfl, rfl⟩ : ∃ w : Wt, w.l = m122 ∧ w.a = a122 ∧ w.c = c122 := ⟨{ l := m122, a := a122, c := c122 }, rfl, rfl, rfl⟩; exact ⟨w, hm122, rfl, rfl⟩),
            ⟨.p rfl (by intro X; exact op_loadA rfl tA48n (Ent.lab (l := 7) rfl (says_cel 0)) (Nat.le_of_ble_eq_true rfl)),
            ⟨.p rfl (by intro X; exact op_move rfl),
            ⟨.p rfl (by intro X; exact op_fieldAddr (off := 1) rfl tF37_1n),
            ⟨.p rfl (by intro X; rintro _ _ ⟨rfl, rfl⟩; exact op_load1 rfl tO3n (Ent.lab (l := 16) rfl (says_cel 1))),
            ⟨.p rfl (by intro X; rintro _ _ ⟨rfl, rfl⟩ _ _ ⟨rfl, rfl⟩; exact op_build tB37n rfl rfl),
            ⟨.px rfl (by intro X; rintro _ _ ⟨rfl, rfl⟩ _ _ ⟨rfl, rfl⟩; refine OpT.mono (op_fn Try.func42 rfl rfl rfl (window_any 128 _ _ _ _ (Sl.lab 24 rfl (by first | (simp [maxLen]; done) | (unfold maxLen; omega))) (by omega) (by omega) (by omega) (by omega))) ?_; rintro _ _ ⟨m128, a128, c128, hm128, rfl, rfl⟩; obtain ⟨w, rfl, rfl, rfl⟩ : ∃ w : Wt, w.l = m128 ∧ w.a = a128 ∧ w.c = c128 := ⟨{ l := m128, a := a128, c := c128 }, rfl, rfl, rfl⟩; exact ⟨w, hm128, rfl, rfl⟩),
            ⟨.px rfl (by intro X; refine OpT.mono (op_alloc (l := 17) tN48n) ?_; rintro _ _ ⟨b17, rfl, rfl⟩; obtain ⟨w, rfl⟩ : ∃ w : Wt, w.b = b17 := ⟨{ b := b17 }, rfl⟩; exact ⟨w, rfl, rfl⟩),
            ⟨.px rfl (by intro X; refine OpT.mono (op_alloc (l := 18) tN48n) ?_; rintro _ _ ⟨b18, rfl, rfl⟩; obtain ⟨w, rfl⟩ : ∃ w : Wt, w.b = b18 := ⟨{ b := b18 }, rfl⟩; exact ⟨w, rfl, rfl⟩),
            trivial⟩⟩⟩⟩⟩⟩⟩⟩⟩⟩⟩⟩⟩⟩)
            (fun β β' => ⟨fun _ => by rfl, ⟨fun _ => by rfl, ⟨fun _ => by rfl, ⟨fun _ => by rfl, ⟨fun _ => by rfl, ⟨fun _ => by rfl, ⟨fun _ => by rfl, ⟨fun _ => by rfl, ⟨fun _ => by rfl, ⟨fun _ => by rfl, ⟨fun _ => by rfl, ⟨fun _ => by rfl, ⟨fun _ => by rfl, ⟨fun _ => by rfl, trivial⟩⟩⟩⟩⟩⟩⟩⟩⟩⟩⟩⟩⟩⟩) ?_
        intro β
        rintro _ _ ⟨rfl, rfl⟩ _ _ ⟨rfl, rfl⟩ _ _ ⟨rfl, rfl⟩ _ _ ⟨rfl, rfl⟩ _ _ ⟨rfl, rfl⟩ _ _ ⟨hm122, rfl, rfl⟩ _ _ ⟨rfl, rfl⟩ _ _ ⟨rfl, rfl⟩ _ _ ⟨rfl, rfl⟩ _ _ ⟨rfl, rfl⟩ _ _ ⟨rfl, rfl⟩ _ _ ⟨hm128, rfl, rfl⟩ _ _ ⟨rfl, rfl⟩ _ _ ⟨rfl, rfl⟩
        generalize (β 5).l = m122 at hm122 hm128 ⊢
        generalize (β 5).a = a122 at hm122 hm128 ⊢
        generalize (β 5).c = c122 at hm122 hm128 ⊢
        generalize (β 11).l = m128 at hm122 hm128 ⊢
        generalize (β 11).a = a128 at hm122 hm128 ⊢
        generalize (β 11).c = c128 at hm122 hm128 ⊢
        generalize (β 12).b = b17 at hm122 hm128 ⊢
        generalize (β 13).b = b18 at hm122 hm128 ⊢
        refine wl_norm (e' := [(7, _), (17, _), (18, _), (122, _), (128, _)]) (.cons rfl (.cons rfl (.cons rfl (.cons rfl (.cons rfl (.nil _)))))) (by dsimp only [cond_false, cond_true, List.nil_append, List.cons_append]) ?_
        refine wl_op0 [17] rfl rfl rfl (op_store rfl rfl tZ48n (by rfl) (by rfl) (by exact Nat.le_of_ble_eq_true rfl)) ?_
        rintro _ _ ⟨rfl, rfl⟩
        refine wl_op0 [18] rfl rfl rfl (op_store rfl rfl tZ48n (by rfl) (by rfl) (by exact Nat.le_of_ble_eq_true rfl)) ?_
        rintro _ _ ⟨rfl, rfl⟩
        refine wl_nil ?_
        refine st_tn ?_
        refine w_seq ?_
        rw [e3] at hm122
        rw [e4] at hm128
        rw [e1, e2]
        have hl1 : m122.length = n := by rw [hm122, List.length_take]; omega
        have hl2 : m128.length = L.length - n := by rw [hm128, List.length_drop]
        have hJ1 : joinR k fr m122 k x m128 = ⟨k, fr, L, 0⟩ := by rw [hm122, hm128, hn]; exact join_split1 hn0 hn1 (by omega)
        have hJ2 : joinR k x m128 k fr m122 = ⟨k, fr, L, 0⟩ := by rw [hm122, hm128, hn]; exact join_split2 hn0 hn1 (by omega)
        have hj1 : (joinR k fr m122 k x m128).vals.length ≤ 30 := by rw [hJ1]; omega
        have hj2 : (joinR k x m128 k fr m122).vals.length ≤ 30 := by rw [hJ2]; omega
        refine w_region ?_
        refine wl_det rfl rfl rfl (op_loadA rfl tA48n (Ent.lab (l := 17) rfl (says_cel 0)) (Nat.le_of_ble_eq_true rfl)) ?_
        refine wl_det rfl rfl rfl (op_loadA rfl tA48n (Ent.lab (l := 18) rfl (says_cel 0)) (Nat.le_of_ble_eq_true rfl)) ?_
        refine wl_op [] rfl rfl rfl rfl (op_fn Try.func38 rfl rfl rfl (join_any 132 _ _ _ _ (Sl.lab 122 rfl (by first | (simp [maxLen]; done) | (unfold maxLen; omega))) (Sl.lab 128 rfl (by first | (simp [maxLen]; done) | (unfold maxLen; omega))) (by omega) (by omega) (by omega) (by omega))) ?_
        rintro _ _ ⟨a132, c132, rfl, rfl⟩
        refine wl_det rfl rfl rfl (op_move rfl) ?_
        refine wl_det rfl rfl rfl (op_extract rfl rfl) ?_
        refine wl_det rfl rfl rfl (op_extract rfl rfl) ?_
        refine wl_op [] rfl rfl rfl rfl (op_alloc (l := 19) tN48n) ?_
        rintro _ _ ⟨b19, rfl, rfl⟩
        refine wl_op0 [19] rfl rfl rfl (op_store rfl rfl tZ48n (by rfl) (by rfl) (by exact Nat.le_of_ble_eq_true rfl)) ?_
        rintro _ _ ⟨rfl, rfl⟩
        refine wl_det rfl rfl rfl (op_assign rfl) ?_
        refine wl_nil ?_
        refine st_tn ?_
        refine w_seq ?_
        refine w_region ?_
        refine wl_det rfl rfl rfl (op_loadA rfl tA48n (Ent.lab (l := 18) rfl (says_cel 0)) (Nat.le_of_ble_eq_true rfl)) ?_
        refine wl_det rfl rfl rfl (op_loadA rfl tA48n (Ent.lab (l := 17) rfl (says_cel 0)) (Nat.le_of_ble_eq_true rfl)) ?_
        refine wl_op [] rfl rfl rfl rfl (op_fn Try.func38 rfl rfl rfl (join_any 138 _ _ _ _ (Sl.lab 128 rfl (by first | (simp [maxLen]; done) | (unfold maxLen; omega))) (Sl.lab 122 rfl (by first | (simp [maxLen]; done) | (unfold maxLen; omega))) (by omega) (by omega) (by omega) (by omega))) ?_
        rintro _ _ ⟨a138, c138, rfl, rfl⟩
        refine wl_det rfl rfl rfl (op_move rfl) ?_
        refine wl_det rfl rfl rfl (op_extract rfl rfl) ?_
        refine wl_det rfl rfl rfl (op_extract rfl rfl) ?_
        refine wl_op [] rfl rfl rfl rfl (op_alloc (l := 21) tN48n) ?_
        rintro _ _ ⟨b21, rfl, rfl⟩
        refine wl_op0 [21] rfl rfl rfl (op_store rfl rfl tZ48n (by rfl) (by rfl) (by exact Nat.le_of_ble_eq_true rfl)) ?_
        rintro _ _ ⟨rfl, rfl⟩
        refine wl_det rfl rfl rfl (op_assign rfl) ?_
        refine wl_nil ?_
        refine st_tn ?_
        refine w_seq ?_
        refine w_region ?_
        refine wl_det rfl rfl rfl (op_move rfl) ?_
        refine wl_det rfl rfl rfl (op_val (v' := .bool true) (by rw [hJ1]; rfl) (op_eql rfl rfl)) ?_
        refine wl_det rfl rfl rfl (op_move rfl) ?_
        refine wl_wanted_det rfl rfl rfl rfl rfl rfl rfl (op_move rfl) ?_
        refine wl_wanted_det rfl rfl rfl rfl rfl rfl rfl (op_val (v' := .bool true) (by rw [hJ2]; rfl) (op_eql rfl rfl)) ?_
        refine wl_det rfl rfl rfl (op_pick_t rfl rfl) ?_
        refine wl_det rfl rfl rfl (op_move rfl) ?_
        refine wl_wanted_det rfl rfl rfl rfl rfl rfl rfl (op_loadA rfl tA48n (Ent.lab (l := 19) rfl (says_cel 0)) (Nat.le_of_ble_eq_true rfl)) ?_
        refine wl_wanted_det rfl rfl rfl rfl rfl rfl rfl (op_loadA rfl tA48n (Ent.lab (l := 7) rfl (says_cel 0)) (Nat.le_of_ble_eq_true rfl)) ?_
        refine wl_wanted_det rfl rfl rfl rfl rfl rfl rfl (op_val (v' := .bool true) (by exact congrArg Value.bool (decide_eq_true ⟨sameK_eq.2 (by rw [hJ1]), by rw [hJ1], by rw [hJ1]⟩)) (op_fn Try.func27 rfl rfl rfl (lsame_any _ _ _ _ (Sl.lab 132 rfl (by first | (simp [maxLen]; done) | (unfold maxLen; omega))) (Sl.lab 24 rfl (by first | (simp [maxLen]; done) | (unfold maxLen; omega)))))) ?_
        refine wl_det rfl rfl rfl (op_pick_t rfl rfl) ?_
        refine wl_det rfl rfl rfl (op_move rfl) ?_
        refine wl_wanted_det rfl rfl rfl rfl rfl rfl rfl (op_loadA rfl tA48n (Ent.lab (l := 21) rfl (says_cel 0)) (Nat.le_of_ble_eq_true rfl)) ?_
        refine wl_wanted_det rfl rfl rfl rfl rfl rfl rfl (op_loadA rfl tA48n (Ent.lab (l := 7) rfl (says_cel 0)) (Nat.le_of_ble_eq_true rfl)) ?_
        refine wl_wanted_det rfl rfl rfl rfl rfl rfl rfl (op_val (v' := .bool true) (by exact congrArg Value.bool (decide_eq_true ⟨sameK_eq.2 (by rw [hJ2]), by rw [hJ2], by rw [hJ2]⟩)) (op_fn Try.func27 rfl rfl rfl (lsame_any _ _ _ _ (Sl.lab 138 rfl (by first | (simp [maxLen]; done) | (unfold maxLen; omega))) (Sl.lab 24 rfl (by first | (simp [maxLen]; done) | (unfold maxLen; omega)))))) ?_
        refine wl_det rfl rfl rfl (op_pick_t rfl rfl) ?_
        refine wl_det rfl rfl rfl (op_assign rfl) ?_
        refine wl_nil ?_
        refine st_tn ?_
        refine w_ret ?_
        refine st_ret (vs := [_]) [] Try.results12 ⟨rfl, trivial⟩ rfl ?_
        refine ⟨_, rfl, ?_⟩
        exact ⟨rfl, rfl⟩
  · -- c46.f
    refine w_skip ?_
    refine st_tn ?_
    refine w_seq ?_
    refine w_region ?_
    refine wl_det rfl rfl rfl (op_loadA rfl tA48n (Ent.lab (l := 7) rfl (says_cel 0)) (Nat.le_of_ble_eq_true rfl)) ?_
    refine wl_det rfl rfl rfl (op_move rfl) ?_
    refine wl_det rfl rfl rfl (op_fn Try.func43 rfl rfl rfl (at_any _ _ _ (Sl.lab 24 rfl (by first | (simp [maxLen]; done) | (unfold maxLen; omega))) (by omega) (by omega) (by omega))) ?_
    refine wl_det rfl rfl rfl (op_move rfl) ?_
    refine wl_det rfl rfl rfl (op_extract rfl rfl) ?_
    refine wl_det rfl rfl rfl (op_extract rfl rfl) ?_
    refine wl_det rfl rfl rfl (op_assign rfl) ?_
    refine wl_det rfl rfl rfl (op_assign rfl) ?_
    refine wl_nil ?_
    refine st_tn ?_
    refine w_seq ?_
    refine w_region ?_
    refine wl_det rfl rfl rfl (op_loadA rfl tA48n (Ent.lab (l := 7) rfl (says_cel 0)) (Nat.le_of_ble_eq_true rfl)) ?_
    refine wl_det rfl rfl rfl (op_move rfl) ?_
    refine wl_det rfl rfl rfl (op_fn Try.func44 rfl rfl rfl (lat_any _ _ _ (Sl.lab 24 rfl (by first | (simp [maxLen]; done) | (unfold maxLen; omega))) (by omega) (by omega) (by omega))) ?_
    refine wl_det rfl rfl rfl (op_move rfl) ?_
    refine wl_det rfl rfl rfl (op_extract rfl rfl) ?_
    refine wl_det rfl rfl rfl (op_extract rfl rfl) ?_
    refine wl_det rfl rfl rfl (op_assign rfl) ?_
    refine wl_det rfl rfl rfl (op_assign rfl) ?_
    refine wl_nil ?_
    refine st_tn ?_
    refine w_seq ?_
    refine w_seq ?_
    refine w_drawW (fun β => (⟨73, [], [], [], noW (_), false, [], []⟩ :: ⟨74, [0], [], [], noW (_), false, [], []⟩ :: ⟨75, [1], [], [], noW (_), false, [], []⟩ :: ⟨76, [], [], [], noW (_), false, [], []⟩ :: ⟨77, [], [], [], noW (_), false, [], []⟩ :: ⟨78, [3, 4], [], [], noW (_), false, [], []⟩ :: ⟨79, [5], [], [], noW (_), false, [], []⟩ :: ⟨80, [2, 6], [], [], noW (_), false, [], []⟩ :: ⟨81, [7], [], [], noW (_), false, [], []⟩ :: ⟨82, [], [], [], noW (_), false, [], []⟩ :: ⟨83, [], [], [], noW (_), false, [], []⟩ :: ⟨84, [9, 10], [], [], noW (_), false, [], []⟩ :: ⟨85, [8, 11], [], [], noW (_), false, [], []⟩ :: ⟨86, [12], [], [], noW (_), false, [], []⟩ :: ⟨87, [], [], [], noW (_), false, [], []⟩ :: ⟨88, [], [], [], noW (_), false, [], []⟩ :: ⟨89, [14, 15], [], [], noW (_), false, [], []⟩ :: ⟨90, [13, 16], [], [], noW (_), false, [], []⟩ :: ⟨91, [17], [], [], noW (_), false, [], []⟩ :: ⟨92, [], [], [], noW (_), false, [], []⟩ :: ⟨93, [19], [], [], noW (_), false, [], []⟩ :: ⟨94, [], [], [], noW (_), false, [], []⟩ :: ⟨95, [21], [], [], noW (_), false, [], []⟩ :: ⟨96, [], [], [], noW (_), false, [], []⟩ :: ⟨97, [23], [], [], noW (_), false, [], []⟩ :: ⟨98, [], [], [], noW (_), false, [], []⟩ :: ⟨99, [25], [], [], noW (_), false, [], []⟩ :: ⟨100, [26], [], [], noW (_), false, [], []⟩ :: ⟨101, [24, 27], [], [], noW (_), false, [], []⟩ :: ⟨102, [22, 28], [], [], noW (_), false, [], []⟩ :: ⟨103, [20, 29], [], [], noW (_), false, [], []⟩ :: ⟨104, [18, 30], [], [], noW (_), false, [], []⟩ :: [])) [] [8, 9, 12, 14, 13, 15, 7] (⟨73, [], [], false, [], []⟩ :: ⟨74, [0], [], false, [], []⟩ :: ⟨75, [1], [], false, [], []⟩ :: ⟨76, [], [], false, [], []⟩ :: ⟨77, [], [], false, [], []⟩ :: ⟨78, [3, 4], [], false, [], []⟩ :: ⟨79, [5], [], false, [], []⟩ :: ⟨80, [2, 6], [], false, [], []⟩ :: ⟨81, [7], [], false, [], []⟩ :: ⟨82, [], [], false, [], []⟩ :: ⟨83, [], [], false, [], []⟩ :: ⟨84, [9, 10], [], false, [], []⟩ :: ⟨85, [8, 11], [], false, [], []⟩ :: ⟨86, [12], [], false, [], []⟩ :: ⟨87, [], [], false, [], []⟩ :: ⟨88, [], [], false, [], []⟩ :: ⟨89, [14, 15], [], false, [], []⟩ :: ⟨90, [13, 16], [], false, [], []⟩ :: ⟨91, [17], [], false, [], []⟩ :: ⟨92, [], [], false, [], []⟩ :: ⟨93, [19], [], false, [], []⟩ :: ⟨94, [], [], false, [], []⟩ :: ⟨95, [21], [], false, [], []⟩ :: ⟨96, [], [], false, [], []⟩ :: ⟨97, [23], [], false, [], []⟩ :: ⟨98, [], [], false, [], []⟩ :: ⟨99, [25], [], false, [], []⟩ :: ⟨100, [26], [], false, [], []⟩ :: ⟨101, [24, 27], [], false, [], []⟩ :: ⟨102, [22, 28], [], false, [], []⟩ :: ⟨103, [20, 29], [], false, [], []⟩ :: ⟨104, [18, 30], [], false, [], []⟩ :: []) ([] :: [] :: [] :: [] :: [] :: [] :: [] :: [] :: [] :: [] :: [] :: [] :: [] :: [] :: [] :: [] :: [] :: [] :: [] :: [] :: [] :: [] :: [] :: [] :: [] :: [] :: [] :: [] :: [] :: [] :: [] :: [] :: []) ([] :: [] :: [] :: [] :: [] :: [] :: [] :: [] :: [] :: [] :: [] :: [] :: [] :: [] :: [] :: [] :: [] :: [] :: [] :: [] :: [] :: [] :: [] :: [] :: [] :: [] :: [] :: [] :: [] :: [] :: [] :: [] :: []) tMixn (fun _ => by rfl) (fun _ => by rfl) (by kernel_rfl) (by kernel_rfl) (by rfl) (by rfl)
        (fun β => ⟨.p rfl (by intro X; exact op_fn Try.func16 rfl rfl rfl (known_any)),
        ⟨.p rfl (by intro X; rintro _ _ ⟨rfl, rfl⟩; exact op_not_t rfl),
        ⟨.p rfl (by intro X; rintro _ _ ⟨rfl, rfl⟩; exact op_move rfl),
        ⟨.w rfl rfl rfl (by rintro _ _ ⟨rfl, rfl⟩; first | rfl | (exact congrArg Value.bool (decide_eq_true (by omega))) | (exact congrArg Value.bool (decide_eq_false (by omega))) | (simp; done) | (simp; omega) | (simp [*]; done)) (by intro X; exact op_loadA rfl tA48n (Ent.lab (l := 8) rfl (says_cel 0)) (Nat.le_of_ble_eq_true rfl)),
        ⟨.w rfl rfl rfl (by rintro _ _ ⟨rfl, rfl⟩; first | rfl | (exact congrArg Value.bool (decide_eq_true (by omega))) | (exact congrArg Value.bool (decide_eq_false (by omega))) | (simp; done) | (simp; omega) | (simp [*]; done)) (by intro X; exact op_loadA rfl tA48n (Ent.lab (l := 9) rfl (says_cel 0)) (Nat.le_of_ble_eq_true rfl)),
        ⟨.w rfl rfl rfl (by rintro _ _ ⟨rfl, rfl⟩; first | rfl | (exact congrArg Value.bool (decide_eq_true (by omega))) | (exact congrArg Value.bool (decide_eq_false (by omega))) | (simp; done) | (simp; omega) | (simp [*]; done)) (by intro X; rintro _ _ ⟨rfl, rfl⟩ _ _ ⟨rfl, rfl⟩; exact op_val (v' := .bool true) (by exact congrArg Value.bool (decide_eq_true ⟨sameK_refl k, by unfold winF; rw [if_pos (by omega)], by rw [hm27]; unfold winL; rw [if_pos (by omega)]⟩)) (op_fn Try.func27 rfl rfl rfl (lsame_any (m := []) k k (winF fr L p q) fr (Sl.lab 27 rfl (by unfold maxLen; omega)) nilZ))),
        ⟨.w rfl rfl rfl (by rintro _ _ ⟨rfl, rfl⟩; first | rfl | (exact congrArg Value.bool (decide_eq_true (by omega))) | (exact congrArg Value.bool (decide_eq_false (by omega))) | (simp; done) | (simp; omega) | (simp [*]; done)) (by intro X; rintro _ _ ⟨rfl, rfl⟩; exact op_not_t rfl),
        ⟨.p rfl (by intro X; rintro _ _ ⟨rfl, rfl⟩ _ _ ⟨rfl, rfl⟩; exact op_pick_f rfl rfl),
        ⟨.p rfl (by intro X; rintro _ _ ⟨rfl, rfl⟩; exact op_move rfl),
        ⟨.w rfl rfl rfl (by rintro _ _ ⟨rfl, rfl⟩; first | rfl | (exact congrArg Value.bool (decide_eq_true (by omega))) | (exact congrArg Value.bool (decide_eq_false (by omega))) | (simp; done) | (simp; omega) | (simp [*]; done)) (by intro X; exact op_move rfl),
        ⟨.w rfl rfl rfl (by rintro _ _ ⟨rfl, rfl⟩; first | rfl | (exact congrArg Value.bool (decide_eq_true (by omega))) | (exact congrArg Value.bool (decide_eq_false (by omega))) | (simp; done) | (simp; omega) | (simp [*]; done)) (by intro X; exact op_move rfl),
        ⟨.w rfl rfl rfl (by rintro _ _ ⟨rfl, rfl⟩; first | rfl | (exact congrArg Value.bool (decide_eq_true (by omega))) | (exact congrArg Value.bool (decide_eq_false (by omega))) | (simp; done) | (simp; omega) | (simp [*]; done)) (by intro X; rintro _ _ ⟨rfl, rfl⟩ _ _ ⟨rfl, rfl⟩; exact op_val (v' := .bool false) (by simp) (op_neq rfl rfl)),
        ⟨.p rfl (by intro X; rintro _ _ ⟨rfl, rfl⟩ _ _ ⟨rfl, rfl⟩; exact op_pick_f rfl rfl),
        ⟨.p rfl (by intro X; rintro _ _ ⟨rfl, rfl⟩; exact op_move rfl),
        ⟨.w rfl rfl rfl (by rintro _ _ ⟨rfl, rfl⟩; first | rfl | (exact congrArg Value.bool (decide_eq_true (by omega))) | (exact congrArg Value.bool (decide_eq_false (by omega))) | (simp; done) | (simp; omega) | (simp [*]; done)) (by intro X; exact op_move rfl),
        ⟨.w rfl rfl rfl (by rintro _ _ ⟨rfl, rfl⟩; first | rfl | (exact congrArg Value.bool (decide_eq_true (by omega))) | (exact congrArg Value.bool (decide_eq_false (by omega))) | (simp; done) | (simp; omega) | (simp [*]; done)) (by intro X; exact op_move rfl),
        ⟨.w rfl rfl rfl (by rintro _ _ ⟨rfl, rfl⟩; first | rfl | (exact congrArg Value.bool (decide_eq_true (by omega))) | (exact congrArg Value.bool (decide_eq_false (by omega))) | (simp; done) | (simp; omega) | (simp [*]; done)) (by intro X; rintro _ _ ⟨rfl, rfl⟩ _ _ ⟨rfl, rfl⟩; exact op_val (v' := .bool false) (by simp) (op_neB rfl rfl Try.underlying4)),
        ⟨.p rfl (by intro X; rintro _ _ ⟨rfl, rfl⟩ _ _ ⟨rfl, rfl⟩; exact op_pick_f rfl rfl),
        ⟨.p rfl (by intro X; rintro _ _ ⟨rfl, rfl⟩; exact op_move rfl),
        ⟨.w rfl rfl rfl (by rintro _ _ ⟨rfl, rfl⟩; first | rfl | (exact congrArg Value.bool (decide_eq_true (by omega))) | (exact congrArg Value.bool (decide_eq_false (by omega))) | (simp; done) | (simp; omega) | (simp [*]; done)) (by intro X; exact op_loadA rfl tA48n (Ent.lab (l := 7) rfl (says_cel 0)) (Nat.le_of_ble_eq_true rfl)),
        ⟨.w rfl rfl rfl (by rintro _ _ ⟨rfl, rfl⟩; first | rfl | (exact congrArg Value.bool (decide_eq_true (by omega))) | (exact congrArg Value.bool (decide_eq_false (by omega))) | (simp; done) | (simp; omega) | (simp [*]; done)) (by intro X; rintro _ _ ⟨rfl, rfl⟩; exact op_fn Try.func45 rfl rfl rfl (slots_any _ _ (Sl.lab 24 rfl (by first | (simp [maxLen]; done) | (unfold maxLen; omega))) (by omega) (by omega))),
        ⟨.w rfl rfl rfl (by rintro _ _ ⟨rfl, rfl⟩; first | rfl | (exact congrArg Value.bool (decide_eq_true (by omega))) | (exact congrArg Value.bool (decide_eq_false (by omega))) | (simp; done) | (simp; omega) | (simp [*]; done)) (by intro X; exact op_fieldAddr (off := 5) rfl tF48_4n),
        ⟨.w rfl rfl rfl (by rintro _ _ ⟨rfl, rfl⟩; first | rfl | (exact congrArg Value.bool (decide_eq_true (by omega))) | (exact congrArg Value.bool (decide_eq_false (by omega))) | (simp; done) | (simp; omega) | (simp [*]; done)) (by intro X; rintro _ _ ⟨rfl, rfl⟩; exact op_load1 rfl tO3n (Ent.lab (l := 7) rfl (says_cel 5))),
        ⟨.w rfl rfl rfl (by rintro _ _ ⟨rfl, rfl⟩; first | rfl | (exact congrArg Value.bool (decide_eq_true (by omega))) | (exact congrArg Value.bool (decide_eq_false (by omega))) | (simp; done) | (simp; omega) | (simp [*]; done)) (by intro X; exact op_fieldAddr (off := 5) rfl tF48_4n),
        ⟨.w rfl rfl rfl (by rintro _ _ ⟨rfl, rfl⟩; first | rfl | (exact congrArg Value.bool (decide_eq_true (by omega))) | (exact congrArg Value.bool (decide_eq_false (by omega))) | (simp; done) | (simp; omega) | (simp [*]; done)) (by intro X; rintro _ _ ⟨rfl, rfl⟩; exact op_load1 rfl tO3n (Ent.lab (l := 7) rfl (says_cel 5))),
        ⟨.w rfl rfl rfl (by rintro _ _ ⟨rfl, rfl⟩; first | rfl | (exact congrArg Value.bool (decide_eq_true (by omega))) | (exact congrArg Value.bool (decide_eq_false (by omega))) | (simp; done) | (simp; omega) | (simp [*]; done)) (by intro X; exact op_fieldAddr (off := 6) rfl tF48_5n),
        ⟨.w rfl rfl rfl (by rintro _ _ ⟨rfl, rfl⟩; first | rfl | (exact congrArg Value.bool (decide_eq_true (by omega))) | (exact congrArg Value.bool (decide_eq_false (by omega))) | (simp; done) | (simp; omega) | (simp [*]; done)) (by intro X; rintro _ _ ⟨rfl, rfl⟩; exact op_load1 rfl tO25n (Ent.lab (l := 7) rfl (says_cel 6))),
        ⟨.w rfl rfl rfl (by rintro _ _ ⟨rfl, rfl⟩; first | rfl | (exact congrArg Value.bool (decide_eq_true (by omega))) | (exact congrArg Value.bool (decide_eq_false (by omega))) | (simp; done) | (simp; omega) | (simp [*]; done)) (by intro X; rintro _ _ ⟨rfl, rfl⟩; exact op_lenT rfl tS25n (Sl.ent (Sl.lab 24 rfl (by first | (simp [maxLen]; done) | (unfold maxLen; omega))))),
        ⟨.w rfl rfl rfl (by rintro _ _ ⟨rfl, rfl⟩; first | rfl | (exact congrArg Value.bool (decide_eq_true (by omega))) | (exact congrArg Value.bool (decide_eq_false (by omega))) | (simp; done) | (simp; omega) | (simp [*]; done)) (by intro X; rintro _ _ ⟨rfl, rfl⟩ _ _ ⟨rfl, rfl⟩; exact op_add' rfl rfl (by omega)),
        ⟨.w rfl rfl rfl (by rintro _ _ ⟨rfl, rfl⟩; first | rfl | (exact congrArg Value.bool (decide_eq_true (by omega))) | (exact congrArg Value.bool (decide_eq_false (by omega))) | (simp; done) | (simp; omega) | (simp [*]; done)) (by intro X; rintro _ _ ⟨rfl, rfl⟩ _ _ ⟨rfl, rfl⟩; exact op_build tB37n rfl rfl),
        ⟨.w rfl rfl rfl (by rintro _ _ ⟨rfl, rfl⟩; first | rfl | (exact congrArg Value.bool (decide_eq_true (by omega))) | (exact congrArg Value.bool (decide_eq_false (by omega))) | (simp; done) | (simp; omega) | (simp [*]; done)) (by intro X; rintro _ _ ⟨rfl, rfl⟩ _ _ ⟨rfl, rfl⟩; exact op_val (v' := .bool false) (by simp) (op_neA rfl rfl tG37n (eq37 _ _ _ _))),
        ⟨.p rfl (by intro X; rintro _ _ ⟨rfl, rfl⟩ _ _ ⟨rfl, rfl⟩; exact op_pick_f rfl rfl),
        trivial⟩⟩⟩⟩⟩⟩⟩⟩⟩⟩⟩⟩⟩⟩⟩⟩⟩⟩⟩⟩⟩⟩⟩⟩⟩⟩⟩⟩⟩⟩⟩⟩)
        (fun β β' => ⟨fun _ => by rfl, ⟨fun _ => by rfl, ⟨fun _ => by rfl, ⟨fun _ => by rfl, ⟨fun _ => by rfl, ⟨fun _ => by rfl, ⟨fun _ => by rfl, ⟨fun _ => by rfl, ⟨fun _ => by rfl, ⟨fun _ => by rfl, ⟨fun _ => by rfl, ⟨fun _ => by rfl, ⟨fun _ => by rfl, ⟨fun _ => by rfl, ⟨fun _ => by rfl, ⟨fun _ => by rfl, ⟨fun _ => by rfl, ⟨fun _ => by rfl, ⟨fun _ => by rfl, ⟨fun _ => by rfl, ⟨fun _ => by rfl, ⟨fun _ => by rfl, ⟨fun _ => by rfl, ⟨fun _ => by rfl, ⟨fun _ => by rfl, ⟨fun _ => by rfl, ⟨fun _ => by rfl, ⟨fun _ => by rfl, ⟨fun _ => by rfl, ⟨fun _ => by rfl, ⟨fun _ => by rfl, ⟨fun _ => by rfl, trivial⟩⟩⟩⟩⟩⟩⟩⟩⟩⟩⟩⟩⟩⟩⟩⟩⟩⟩⟩⟩⟩⟩⟩⟩⟩⟩⟩⟩⟩⟩⟩⟩) ?_
    intro β
    rintro _ _ ⟨rfl, rfl⟩ _ _ ⟨rfl, rfl⟩ _ _ ⟨rfl, rfl⟩ _ _ ⟨rfl, rfl⟩ _ _ ⟨rfl, rfl⟩ _ _ ⟨rfl, rfl⟩ _ _ ⟨rfl, rfl⟩ _ _ ⟨rfl, rfl⟩ _ _ ⟨rfl, rfl⟩ _ _ ⟨rfl, rfl⟩ _ _ ⟨rfl, rfl⟩ _ _ ⟨rfl, rfl⟩ _ _ ⟨rfl, rfl⟩ _ _ ⟨rfl, rfl⟩ _ _ ⟨rfl, rfl⟩ _ _ ⟨rfl, rfl⟩ _ _ ⟨rfl, rfl⟩ _ _ ⟨rfl, rfl⟩ _ _ ⟨rfl, rfl⟩ _ _ ⟨rfl, rfl⟩ _ _ ⟨rfl, rfl⟩ _ _ ⟨rfl, rfl⟩ _ _ ⟨rfl, rfl⟩ _ _ ⟨rfl, rfl⟩ _ _ ⟨rfl, rfl⟩ _ _ ⟨rfl, rfl⟩ _ _ ⟨rfl, rfl⟩ _ _ ⟨rfl, rfl⟩ _ _ ⟨rfl, rfl⟩ _ _ ⟨rfl, rfl⟩ _ _ ⟨rfl, rfl⟩ _ _ ⟨rfl, rfl⟩
    refine wl_norm (e' := [(2, _), (7, _), (104, _)]) (.cons rfl (.cons rfl (.cons rfl (.nil _)))) (by dsimp only [cond_false, cond_true, List.nil_append, List.cons_append]) ?_
    refine wl_nil ?_
    refine st_tn ?_
    refine w_cond_f (rfl) ?_
    refine w_skip ?_
    refine st_tn ?_
    refine w_seq ?_
    refine w_region ?_
    refine wl_det rfl rfl rfl (op_loadA rfl tA48n (Ent.lab (l := 7) rfl (says_cel 0)) (Nat.le_of_ble_eq_true rfl)) ?_
    refine wl_det rfl rfl rfl (op_fn Try.func45 rfl rfl rfl (slots_any _ _ (Sl.lab 24 rfl (by first | (simp [maxLen]; done) | (unfold maxLen; omega))) (by omega) (by omega))) ?_
    refine wl_op [] rfl rfl rfl rfl (op_alloc (l := 16) tN37n) ?_
    rintro _ _ ⟨b16, rfl, rfl⟩
    refine wl_op0 [16] rfl rfl rfl (op_store rfl rfl tZ37n (by rfl) (by rfl) (by exact Nat.le_of_ble_eq_true rfl)) ?_
    rintro _ _ ⟨rfl, rfl⟩
    refine wl_nil ?_
    refine st_tn ?_
    refine w_seq ?_
    refine w_seq ?_
    refine w_cutL [(116, .bool (decide (x ≤ fr ∨ x ≥ fr + L.length)))] [2, 7, 16] [3, 4, 24, 7, 27, 8, 9, 16] rfl (fun K' hK => ?_) ?_
    · -- cut r13
      refine w_region ?_
      refine wl_det rfl rfl rfl (op_move rfl) ?_
      refine wl_det rfl rfl rfl (op_fieldAddr (off := 0) rfl tF37_0n) ?_
      refine wl_det rfl rfl rfl (op_load1 rfl tO3n (Ent.lab (l := 16) rfl (says_cel 0))) ?_
      refine wl_det rfl rfl rfl (op_leq rfl rfl) ?_
      refine wl_det rfl rfl rfl (op_move rfl) ?_
      refine wl_gsplit (t := 111) rfl (fun hg111 => ?_) (fun hg111 => ?_)
      · -- 111 is True
        refine wl_unwanted rfl rfl rfl rfl rfl rfl rfl rfl ?_
        refine wl_unwanted rfl rfl rfl rfl rfl rfl rfl rfl ?_
        refine wl_unwanted rfl rfl rfl rfl rfl rfl rfl rfl ?_
        refine wl_unwanted rfl rfl rfl rfl rfl rfl rfl rfl ?_
        refine wl_det rfl rfl rfl (op_pick_t rfl rfl) ?_
        refine wl_nil ?_
        refine st_tn ?_
        exact cut_done1 [3, 4, 24, 7, 27, 8, 9, 16] hK rfl (by first | (rw [decide_eq_decide]; omega) | (symm; rw [decide_eq_false_iff_not]; omega) | (symm; rw [decide_eq_true_iff]; omega) | (simp; done) | (simp; omega) | (simp [*]; done) | (simp [*]; omega)) (by rfl) rfl rfl
      · -- 111 is False
        refine wl_wanted_det rfl rfl rfl rfl rfl rfl rfl (op_move rfl) ?_
        refine wl_wanted_det rfl rfl rfl rfl rfl rfl rfl (op_fieldAddr (off := 1) rfl tF37_1n) ?_
        refine wl_wanted_det rfl rfl rfl rfl rfl rfl rfl (op_load1 rfl tO3n (Ent.lab (l := 16) rfl (says_cel 1))) ?_
        refine wl_wanted_det rfl rfl rfl rfl rfl rfl rfl (op_geq rfl rfl) ?_
        refine wl_det rfl rfl rfl (op_pick_f rfl rfl) ?_
        refine wl_nil ?_
        refine st_tn ?_
        exact cut_done1 [3, 4, 24, 7, 27, 8, 9, 16] hK rfl (by first | (rw [decide_eq_decide]; omega) | (symm; rw [decide_eq_false_iff_not]; omega) | (symm; rw [decide_eq_true_iff]; omega) | (simp; done) | (simp; omega) | (simp [*]; done) | (simp [*]; omega)) (by rfl) rfl rfl
    · -- behind r13
      show W _ _ _ _ _ [(116, _), (2, _), (7, _), (16, _)] [(3, _), (4, _), (24, _), (7, _), (27, _), (8, _), (9, _), (16, _)] _
      refine w_cond_d rfl (fun hc116 => ?_) (fun hc116 => ?_)
      · -- c116.t
        refine w_seq ?_
        refine w_region ?_
        refine wl_det rfl rfl rfl (op_assign rfl) ?_
        refine wl_nil ?_
        refine st_tn ?_
        refine w_ret ?_
        refine st_tr ?_
        refine st_ret (vs := [_]) [] Try.results12 ⟨rfl, trivial⟩ rfl ?_
        refine ⟨_, rfl, ?_⟩
        exact ⟨rfl, rfl⟩
      · -- c116.f
        obtain ⟨n, hn⟩ : ∃ n : Nat, x = fr + n := ⟨(x - fr).toNat, by omega⟩
        have e1 : winF fr L fr x = fr := by unfold winF; split <;> omega
        have e2 : winF fr L x (fr + L.length) = x := by unfold winF; split <;> omega
        have e3 : winL fr L fr x = L.take n := by unfold winL; rw [if_neg (by omega), show (max fr fr - fr).toNat = 0 by omega, show (min (fr + L.length) x - fr).toNat = n by omega]; rfl
        have e4 : winL fr L x (fr + L.length) = L.drop n := by unfold winL; rw [if_neg (by omega), show (max fr x - fr).toNat = n by omega, List.take_of_length_le (by omega)]
        have hn0 : 0 < n := by omega
        have hn1 : n < L.length := by omega
        refine w_skip ?_
        refine st_tn ?_
        refine w_seq ?_
        refine w_drawW (fun β => [⟨117, [], [], [], noW (_), false, [], []⟩, ⟨118, [], [], [], noW (_), false, [], []⟩, ⟨119, [1], [], [], noW (_), false, [], []⟩, ⟨120, [], [], [], noW (_), false, [], []⟩, ⟨121, [2, 3], [], [], noW (_), false, [], []⟩, ⟨122, [0, 4], [], [], fun w => AndW _ (DetW _ _), false, [], []⟩, ⟨123, [], [], [], noW (_), false, [], []⟩, ⟨124, [], [], [], noW (_), false, [], []⟩, ⟨125, [], [], [], noW (_), false, [], []⟩, ⟨126, [8], [], [], noW (_), false, [], []⟩, ⟨127, [7, 9], [], [], noW (_), false, [], []⟩, ⟨128, [6, 10], [], [], fun w => AndW _ (DetW _ _), false, [], []⟩, ⟨17, [], [], [], fun w => DetW _ _, false, [], []⟩, ⟨18, [], [], [], fun w => DetW _ _, false, [], []⟩]) [] [7, 16, 2] [⟨117, [], [], false, [], []⟩, ⟨118, [], [], false, [], []⟩, ⟨119, [1], [], false, [], []⟩, ⟨120, [], [], false, [], []⟩, ⟨121, [2, 3], [], false, [], []⟩, ⟨122, [0, 4], [], false, [], []⟩, ⟨123, [], [], false, [], []⟩, ⟨124, [], [], false, [], []⟩, ⟨125, [], [], false, [], []⟩, ⟨126, [8], [], false, [], []⟩, ⟨127, [7, 9], [], false, [], []⟩, ⟨128, [6, 10], [], false, [], []⟩, ⟨17, [], [], false, [], []⟩, ⟨18, [], [], false, [], []⟩] [[], [], [], [], [], [], [], [], [], [], [], [], [], []] [[], [], [], [], [], [], [], [], [], [], [], [], [], []] tMixn (fun _ => by rfl) (fun _ => by rfl) (by kernel_rfl) (by kernel_rfl) (by rfl) (by rfl)
            (fun β => ⟨.p rfl (by intro X; exact op_loadA rfl tA48n (Ent.lab (l := 7) rfl (says_cel 0)) (Nat.le_of_ble_eq_true rfl)),
            ⟨.p rfl (by intro X; exact op_fieldAddr (off := 0) rfl tF37_0n),
            ⟨.p rfl (by intro X; rintro _ _ ⟨rfl, rfl⟩; exact op_load1 rfl tO3n (Ent.lab (l := 16) rfl (says_cel 0))),
            ⟨.p rfl (by intro X; exact op_move rfl),
            ⟨.p rfl (by intro X; rintro _ _ ⟨rfl, rfl⟩ _ _ ⟨rfl, rfl⟩; exact op_build tB37n rfl rfl),
            ⟨.px rfl (by intro X; rintro _ _ ⟨rfl, rfl⟩ _ _ ⟨rfl, rfl⟩; refine OpT.mono (op_fn Try.func42 rfl rfl rfl (window_any 122 _ _ _ _ (Sl.lab 24 rfl (by first | (simp [maxLen]; done) | (unfold maxLen; omega))) (by omega) (by omega) (by omega) (by omega))) ?_; rintro _ _ ⟨m122, a122, c122, hm122, rfl, rfl⟩; obtain ⟨w, rfl, rfl, rfl⟩ : ∃ w : Wt, w.l = m122 ∧ w.a = a122 ∧ w.c = c122 := ⟨{ l := m122, a := a122, c := c122 }, rfl, rfl, rfl⟩; exact ⟨w, hm122, rfl, rfl⟩),
            ⟨.p rfl (by intro X; exact op_loadA rfl tA48n (Ent.lab (l := 7) rfl (says_cel 0)) (Nat.le_of_ble_eq_true rfl)),
            ⟨.p rfl (by intro X; exact op_move rfl),
            ⟨.p rfl (by intro X; exact op_fieldAddr (off := 1) rfl tF37_1n),
            ⟨.p rfl (by intro X; rintro _ _ ⟨rfl, rfl⟩; exact op_load1 rfl tO3n (Ent.lab (l := 16) rfl (says_cel 1))),
            ⟨.p rfl (by intro X; rintro _ _ ⟨rfl, rfl⟩ _ _ ⟨rfl, rfl⟩; exact op_build tB37n rfl rfl),
            ⟨.px rfl (by intro X; rintro _ _ ⟨rfl, rfl⟩ _ _ ⟨rfl, rfl⟩; refine OpT.mono (op_fn Try.func42 rfl rfl rfl (window_any 128 _ _ _ _ (Sl.lab 24 rfl (by first | (simp [maxLen]; done) | (unfold maxLen; omega))) (by omega) (by omega) (by omega) (by omega))) ?_; rintro _ _ ⟨m128, a128, c128, hm128, rfl, rfl⟩; obtain ⟨w, rfl, rfl, rfl⟩ : ∃ w : Wt, w.l = m128 ∧ w.a = a128 ∧ w.c = c128 := ⟨{ l := m128, a := a128, c := c128 }, rfl, rfl, rfl⟩; exact ⟨w, hm128, rfl, rfl⟩),
            ⟨.px rfl (by intro X; refine OpT.mono (op_alloc (l := 17) tN48n) ?_; rintro _ _ ⟨b17, rfl, rfl⟩; obtain ⟨w, rfl⟩ : ∃ w : Wt, w.b = b17 := ⟨{ b := b17 }, rfl⟩; exact ⟨w, rfl, rfl⟩),
            ⟨.px rfl (by intro X; refine OpT.mono (op_alloc (l := 18) tN48n) ?_; rintro _ _ ⟨b18, rfl, rfl⟩; obtain ⟨w, rfl⟩ : ∃ w : Wt, w.b = b18 := ⟨{ b := b18 }, rfl⟩; exact ⟨w, rfl, rfl⟩),
            trivial⟩⟩⟩⟩⟩⟩⟩⟩⟩⟩⟩⟩⟩⟩)
            (fun β β' => ⟨fun _ => by rfl, ⟨fun _ => by rfl, ⟨fun _ => by rfl, ⟨fun _ => by rfl, ⟨fun _ => by rfl, ⟨fun _ => by rfl, ⟨fun _ => by rfl, ⟨fun _ => by rfl, ⟨fun _ => by rfl, ⟨fun _ => by rfl, ⟨fun _ => by rfl, ⟨fun _ => by rfl, ⟨fun _ => by rfl, ⟨fun _ => by rfl, trivial⟩⟩⟩⟩⟩⟩⟩⟩⟩⟩⟩⟩⟩⟩) ?_
        intro β
        rintro _ _ ⟨rfl, rfl⟩ _ _ ⟨rfl, rfl⟩ _ _ ⟨rfl, rfl⟩ _ _ ⟨rfl, rfl⟩ _ _ ⟨rfl, rfl⟩ _ _ ⟨hm122, rfl, rfl⟩ _ _ ⟨rfl, rfl⟩ _ _ ⟨rfl, rfl⟩ _ _ ⟨rfl, rfl⟩ _ _ ⟨rfl, rfl⟩ _ _ ⟨rfl, rfl⟩ _ _ ⟨hm128, rfl, rfl⟩ _ _ ⟨rfl, rfl⟩ _ _ ⟨rfl, rfl⟩
        generalize (β 5).l = m122 at hm122 hm128 ⊢
        generalize (β 5).a = a122 at hm122 hm128 ⊢
        generalize (β 5).c = c122 at hm122 hm128 ⊢
        generalize (β 11).l = m128 at hm122 hm128 ⊢
        generalize (β 11).a = a128 at hm122 hm128 ⊢
        generalize (β 11).c = c128 at hm122 hm128 ⊢
        generalize (β 12).b = b17 at hm122 hm128 ⊢
        generalize (β 13).b = b18 at hm122 hm128 ⊢
        refine wl_norm (e' := [(7, _), (17, _), (18, _), (122, _), (128, _)]) (.cons rfl (.cons rfl (.cons rfl (.cons rfl (.cons rfl (.nil _)))))) (by dsimp only [cond_false, cond_true, List.nil_append, List.cons_append]) ?_
        refine wl_op0 [17] rfl rfl rfl (op_store rfl rfl tZ48n (by rfl) (by rfl) (by exact Nat.le_of_ble_eq_true rfl)) ?_
        rintro _ _ ⟨rfl, rfl⟩
        refine wl_op0 [18] rfl rfl rfl (op_store rfl rfl tZ48n (by rfl) (by rfl) (by exact Nat.le_of_ble_eq_true rfl)) ?_
        rintro _ _ ⟨rfl, rfl⟩
        refine wl_nil ?_
        refine st_tn ?_
        refine w_seq ?_
        rw [e3] at hm122
        rw [e4] at hm128
        rw [e1, e2]
        have hl1 : m122.length = n := by rw [hm122, List.length_take]; omega
        have hl2 : m128.length = L.length - n := by rw [hm128, List.length_drop]
        have hJ1 : joinR k fr m122 k x m128 = ⟨k, fr, L, 0⟩ := by rw [hm122, hm128, hn]; exact join_split1 hn0 hn1 (by omega)
        have hJ2 : joinR k x m128 k fr m122 = ⟨k, fr, L, 0⟩ := by rw [hm122, hm128, hn]; exact join_split2 hn0 hn1 (by omega)
        have hj1 : (joinR k fr m122 k x m128).vals.length ≤ 30 := by rw [hJ1]; omega
        have hj2 : (joinR k x m128 k fr m122).vals.length ≤ 30 := by rw [hJ2]; omega
        refine w_region ?_
        refine wl_det rfl rfl rfl (op_loadA rfl tA48n (Ent.lab (l := 17) rfl (says_cel 0)) (Nat.le_of_ble_eq_true rfl)) ?_
        refine wl_det rfl rfl rfl (op_loadA rfl tA48n (Ent.lab (l := 18) rfl (says_cel 0)) (Nat.le_of_ble_eq_true rfl)) ?_
        refine wl_op [] rfl rfl rfl rfl (op_fn Try.func38 rfl rfl rfl (join_any 132 _ _ _ _ (Sl.lab 122 rfl (by first | (simp [maxLen]; done) | (unfold maxLen; omega))) (Sl.lab 128 rfl (by first | (simp [maxLen]; done) | (unfold maxLen; omega))) (by omega) (by omega) (by omega) (by omega))) ?_
        rintro _ _ ⟨a132, c132, rfl, rfl⟩
        refine wl_det rfl rfl rfl (op_move rfl) ?_
        refine wl_det rfl rfl rfl (op_extract rfl rfl) ?_
        refine wl_det rfl rfl rfl (op_extract rfl rfl) ?_
        refine wl_op [] rfl rfl rfl rfl (op_alloc (l := 19) tN48n) ?_
        rintro _ _ ⟨b19, rfl, rfl⟩
        refine wl_op0 [19] rfl rfl rfl (op_store rfl rfl tZ48n (by rfl) (by rfl) (by exact Nat.le_of_ble_eq_true rfl)) ?_
        rintro _ _ ⟨rfl, rfl⟩
        refine wl_det rfl rfl rfl (op_assign rfl) ?_
        refine wl_nil ?_
        refine st_tn ?_
        refine w_seq ?_
        refine w_region ?_
        refine wl_det rfl rfl rfl (op_loadA rfl tA48n (Ent.lab (l := 18) rfl (says_cel 0)) (Nat.le_of_ble_eq_true rfl)) ?_
        refine wl_det rfl rfl rfl (op_loadA rfl tA48n (Ent.lab (l := 17) rfl (says_cel 0)) (Nat.le_of_ble_eq_true rfl)) ?_
        refine wl_op [] rfl rfl rfl rfl (op_fn Try.func38 rfl rfl rfl (join_any 138 _ _ _ _ (Sl.lab 128 rfl (by first | (simp [maxLen]; done) | (unfold maxLen; omega))) (Sl.lab 122 rfl (by first | (simp [maxLen]; done) | (unfold maxLen; omega))) (by omega) (by omega) (by omega) (by omega))) ?_
        rintro _ _ ⟨a138, c138, rfl, rfl⟩
        refine wl_det rfl rfl rfl (op_move rfl) ?_
        refine wl_det rfl rfl rfl (op_extract rfl rfl) ?_
        refine wl_det rfl rfl rfl (op_extract rfl rfl) ?_
        refine wl_op [] rfl rfl rfl rfl (op_alloc (l := 21) tN48n) ?_
        rintro _ _ ⟨b21, rfl, rfl⟩
        refine wl_op0 [21] rfl rfl rfl (op_store rfl rfl tZ48n (by rfl) (by rfl) (by exact Nat.le_of_ble_eq_true rfl)) ?_
        rintro _ _ ⟨rfl, rfl⟩
        refine wl_det rfl rfl rfl (op_assign rfl) ?_
        refine wl_nil ?_
        refine st_tn ?_
        refine w_seq ?_
        refine w_region ?_
        refine wl_det rfl rfl rfl (op_move rfl) ?_
        refine wl_det rfl rfl rfl (op_val (v' := .bool true) (by rw [hJ1]; rfl) (op_eql rfl rfl)) ?_
        refine wl_det rfl rfl rfl (op_move rfl) ?_
        refine wl_wanted_det rfl rfl rfl rfl rfl rfl rfl (op_move rfl) ?_
        refine wl_wanted_det rfl rfl rfl rfl rfl rfl rfl (op_val (v' := .bool true) (by rw [hJ2]; rfl) (op_eql rfl rfl)) ?_
        refine wl_det rfl rfl rfl (op_pick_t rfl rfl) ?_
        refine wl_det rfl rfl rfl (op_move rfl) ?_
        refine wl_wanted_det rfl rfl rfl rfl rfl rfl rfl (op_loadA rfl tA48n (Ent.lab (l := 19) rfl (says_cel 0)) (Nat.le_of_ble_eq_true rfl)) ?_
        refine wl_wanted_det rfl rfl rfl rfl rfl rfl rfl (op_loadA rfl tA48n (Ent.lab (l := 7) rfl (says_cel 0)) (Nat.le_of_ble_eq_true rfl)) ?_
        refine wl_wanted_det rfl rfl rfl rfl rfl rfl rfl (op_val (v' := .bool true) (by exact congrArg Value.bool (decide_eq_true ⟨sameK_eq.2 (by rw [hJ1]), by rw [hJ1], by rw [hJ1]⟩)) (op_fn Try.func27 rfl rfl rfl (lsame_any _ _ _ _ (Sl.lab 132 rfl (by first | (simp [maxLen]; done) | (unfold maxLen; omega))) (Sl.lab 24 rfl (by first | (simp [maxLen]; done) | (unfold maxLen; omega)))))) ?_
        refine wl_det rfl rfl rfl (op_pick_t rfl rfl) ?_
        refine wl_det rfl rfl rfl (op_move rfl) ?_
        refine wl_wanted_det rfl rfl rfl rfl rfl rfl rfl (op_loadA rfl tA48n (Ent.lab (l := 21) rfl (says_cel 0)) (Nat.le_of_ble_eq_true rfl)) ?_
        refine wl_wanted_det rfl rfl rfl rfl rfl rfl rfl (op_loadA rfl tA48n (Ent.lab (l := 7) rfl (says_cel 0)) (Nat.le_of_ble_eq_true rfl)) ?_
        refine wl_wanted_det rfl rfl rfl rfl rfl rfl rfl (op_val (v' := .bool true) (by exact congrArg Value.bool (decide_eq_true ⟨sameK_eq.2 (by rw [hJ2]), by rw [hJ2], by rw [hJ2]⟩)) (op_fn Try.func27 rfl rfl rfl (lsame_any _ _ _ _ (Sl.lab 138 rfl (by first | (simp [maxLen]; done) | (unfold maxLen; omega))) (Sl.lab 24 rfl (by first | (simp [maxLen]; done) | (unfold maxLen; omega)))))) ?_
        refine wl_det rfl rfl rfl (op_pick_t rfl rfl) ?_
        refine wl_det rfl rfl rfl (op_assign rfl) ?_
        refine wl_nil ?_
        refine st_tn ?_
        refine w_ret ?_
        refine st_ret (vs := [_]) [] Try.results12 ⟨rfl, trivial⟩ rfl ?_
        refine ⟨_, rfl, ?_⟩
        exact ⟨rfl, rfl⟩

end Go.Proofs.Ytbgddblfalahfaa
