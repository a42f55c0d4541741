/- The laws' known, and the laws DictionaryChecks, Finds, Codes, Remaps, Merges (layer 6). Conditions: none. -/
import Derived.Test.YtbpihhaiechnbaaD7
namespace Go.Proofs.Ytbpihhaiechnbaa
open Go Go.SL Go.RowKit Go.DicM
set_option linter.unusedVariables false
set_option linter.unusedSimpArgs false
theorem tB40h : placesB Try.prog 40 = some ([(0, 1), (1, 1)], [Value.int .i64 0, Value.int .i64 0]) := by kernel_rfl
theorem tG40h : Try.prog.eqGuardType Try.prog.depth 40 = false := by kernel_rfl
theorem tL22_2h : zerosB Try.prog 22 9 1 2 = some [Value.string .empty, Value.string .empty] := by kernel_rfl
theorem tL22_3h : zerosB Try.prog 22 9 1 3 = some [Value.string .empty, Value.string .empty, Value.string .empty] := by kernel_rfl
theorem tL22_4h : zerosB Try.prog 22 9 1 4 = some [Value.string .empty, Value.string .empty, Value.string .empty, Value.string .empty] := by kernel_rfl
theorem tL31_2h : zerosB Try.prog 31 3 1 2 = some [Value.int .i64 0, Value.int .i64 0] := by kernel_rfl
theorem tS31h : sliceB Try.prog 31 3 1 = true := by kernel_rfl

theorem eq40 (a b c d : Int) (w : World) : (Op.equal 40 (.agg #[.int .i64 a, .int .i64 b]) (.agg #[.int .i64 c, .int .i64 d])).run Try.prog w = .ok (decide ((a, b) = (c, d))) w := by
  have hs : Try.prog.stoodInHeld 40 = false := by kernel_rfl
  have hf : (Try.prog.fieldsOf 40).toList.map (fun f => (f.name, f.type, f.offset)) = [("From", 3, 0), ("To", 3, 1)] := by kernel_rfl
  have ha : ∀ w, (isAgg 3).run Try.prog w = .ok false w := fun w => by unfold isAgg; rw [Sem.run_bind, run_underlying Try.underlying3 w]; rfl
  obtain ⟨l, hl⟩ : ∃ l, Try.prog.fieldsOf 40 = l := ⟨_, rfl⟩
  show (Op.equalIn (9999 + 1) 40 _ _).run Try.prog w = _
  rw [run_equalIn_agg w 9999 40 _ _ (by kernel_rfl) hs]
  rw [hl] at hf ⊢
  obtain ⟨ll⟩ := l
  simp only at hf ⊢
  match ll, hf with
  | [f, g], hf =>
    simp only [List.map_cons, List.map_nil, List.cons.injEq, Prod.mk.injEq, and_true] at hf
    obtain ⟨⟨f1, f2, f3⟩, g1, g2, g3⟩ := hf
    by_cases h1 : a = c <;> by_cases h2 : b = d <;> simp [h1, h2, part, Sem.run_bind, ha, run_equalIn_int w 9998 3 .i64 .i64 _ _ Try.underlying3, Op.eqFields, f1, f2, f3, g1, g2, g3]
theorem chk_ok {l : List Bs} (h : chkE l = 0) : (∀ x ∈ l, x.length ≤ 255) ∧ l.length ≤ 4096 := by
  unfold chkE at h
  split at h
  · omega
  · rename_i h0
    refine ⟨fun x hx => ?_, by omega⟩
    obtain ⟨i, hi⟩ := List.mem_iff_getElem?.1 hx
    have := first_zero h i (List.getElem?_eq_some_iff.1 hi).1
    unfold chkAt at this
    rw [getD_of hi] at this
    split at this
    · omega
    · omega
theorem chk_inc {l : List Bs} (h : chkE l = 0) : Inc l := by
  refine Inc.of_next fun i x y hx hy => ?_
  unfold chkE at h
  split at h
  · omega
  · have := first_zero h (i + 1) (List.getElem?_eq_some_iff.1 hy).1
    unfold chkAt at this
    rw [getD_of hy, Nat.add_sub_cancel, getD_of hx] at this
    split at this
    · omega
    · split at this
      · omega
      · rename_i h2
        rcases lt_tri x y with h3 | h3 | h3
        · exact h3
        · subst h3; exact absurd ⟨by omega, le_iff.2 (lt_irrefl x)⟩ h2
        · exact absurd ⟨by omega, lt_le h3⟩ h2
theorem chk_of {l : List Bs} (hi : Inc l) (hv : ∀ x ∈ l, x.length ≤ 255) (hl : l.length ≤ 4096) : chkE l = 0 := by
  unfold chkE; rw [if_neg (by omega)]
  refine first_none fun j hj => ?_
  have hx : l[j]? = some l[j] := List.getElem?_eq_getElem hj
  have := hv _ (List.getElem_mem hj)
  unfold chkAt
  rw [getD_of hx, if_neg (by omega), if_neg]
  rintro ⟨h1, h2⟩
  have hy : l[j - 1]? = some l[j - 1] := List.getElem?_eq_getElem (by omega)
  rw [getD_of hy] at h2
  exact le_iff.1 h2 (hi.get hy hx (by omega))
theorem build_short {d l : List Bs} (hd : Inc d) (h1 : ∀ x ∈ d, x.length ≤ 255) (h2 : ∀ x ∈ l, x.length ≤ 255) : ∀ x ∈ build d l, x.length ≤ 255 := fun x hx => by
  rcases ((build_spec hd).2 x).1 hx with h | h
  · exact h1 x h
  · exact h2 x h
theorem longB_false {l : List Bs} (h : longB l = false) : ∀ x ∈ l, x.length ≤ 255 := by
  unfold longB at h; rw [List.any_eq_false] at h; intro x hx; have := h x hx; simp at this; omega
theorem bld_short (l : List Bs) : ∀ x ∈ bldL l, x.length ≤ 255 := by
  unfold bldL; split
  · rename_i h
    have hl : longB l = false := by
      unfold bldE at h; split at h
      · omega
      · rename_i h2; simpa using h2
    exact build_short List.Pairwise.nil (by simp) (longB_false hl)
  · simp
theorem bld_few (l : List Bs) : (bldL l).length ≤ 4096 := by
  unfold bldL; split
  · rename_i h; unfold bldE at h; split at h
    · omega
    · split at h <;> omega
  · simp
theorem dict_inc (l : List Bs) : Inc (dictOf l) := bld_inc _
theorem dict_short (l : List Bs) : ∀ x ∈ dictOf l, x.length ≤ 255 := bld_short _
theorem dict_len (l : List Bs) : (dictOf l).length ≤ l.length := Nat.le_trans (bld_len _) (List.length_filter_le _ _)
theorem chk_bld (l : List Bs) : chkE (bldL l) = 0 := chk_of (bld_inc l) (bld_short l) (bld_few l)
theorem codesL_len (d l : List Bs) : (codesL d l).length ≤ l.length := by unfold codesL; split <;> simp
theorem strL_len (d : List Bs) (l : List Int) : (strL d l).length ≤ l.length := by unfold strL; split <;> simp
theorem remL_len (l m : List Int) : (remL l m).length ≤ l.length := by unfold remL; split <;> simp
theorem codes_all {d l : List Bs} (h : codesE d l = 0) : ∀ s ∈ l, d[lower d s]? = some s := by
  unfold codesE at h; split at h
  · rename_i h2; rw [List.all_eq_true] at h2; intro s hs; simpa using h2 s hs
  · omega
theorem codes_back {d l : List Bs} (h : codesE d l = 0) : strE d (codesL d l) = 0 ∧ strL d (codesL d l) = l := by
  have h1 := codes_all h
  obtain ⟨_, h2⟩ := codes_ok h1
  have h3 : ∀ s ∈ l, fk d s = lower d s := fun s hs => by unfold fk; rw [if_pos (h1 s hs)]
  obtain ⟨h4, h5⟩ := str_ok (d := d) (cs := codesL d l) (fun x hx => by
    rw [h2] at hx
    obtain ⟨s, hs, rfl⟩ := List.mem_map.1 hx
    have := (List.getElem?_eq_some_iff.1 (h1 s hs)).1
    rw [h3 s hs]; omega)
  refine ⟨h4, ?_⟩
  rw [h5, h2, List.map_map]
  refine (List.map_congr_left fun s hs => ?_).trans (List.map_id l)
  simp only [Function.comp]
  rw [h3 s hs, Int.toNat_natCast, getD_of (h1 s hs)]; rfl
theorem from_codes {D x : List Bs} (hD : Inc D) (h : ∀ s ∈ x, s ∈ D) : codesL D x = fromL x D := by
  have h1 : ∀ s ∈ x, D[lower D s]? = some s := fun s hs => lower_hit hD (h s hs)
  obtain ⟨_, h2⟩ := codes_ok h1
  rw [h2]; unfold fromL
  exact List.map_congr_left fun s hs => by rw [if_pos (h1 s hs)]
theorem build_comm {a b : List Bs} (ha : Inc a) (hb : Inc b) : build a b = build b a :=
  (build_spec ha).1.ext (build_spec hb).1 fun x => by rw [(build_spec ha).2, (build_spec hb).2]; exact or_comm
theorem build_own {a : List Bs} (ha : Inc a) : build a a = a :=
  (build_spec ha).1.ext ha fun x => by rw [(build_spec ha).2]; simp
theorem mrg_spec {a b : List Bs} (ha : Inc a) (hb : Inc b) (sa : ∀ x ∈ a, x.length ≤ 255) (sb : ∀ x ∈ b, x.length ≤ 255) (hl : a.length + b.length ≤ 4096) :
    bldE (a ++ b) = 0 ∧ bldL (a ++ b) = build a b ∧ mrgA a b a = fromL a (build a b) ∧ mrgA a b b = fromL b (build a b) := by
  have h1 : ∀ x ∈ a ++ b, x.length ≤ 255 := fun x hx => by rcases List.mem_append.1 hx with h | h; (· exact sa x h); (· exact sb x h)
  have h2 := build_length (a ++ b) []
  obtain ⟨h3, h4⟩ := bld_ok h1 (by simp at h2; omega)
  have h5 : build [] (a ++ b) = build a b := by
    obtain ⟨p1, p2⟩ := build_spec (l := a ++ b) (d := []) List.Pairwise.nil
    obtain ⟨q1, q2⟩ := build_spec (l := b) ha
    exact p1.ext q1 fun x => by rw [p2, q2]; simp
  rw [h5] at h4
  obtain ⟨q1, q2⟩ := build_spec (l := b) ha
  refine ⟨h3, h4, ?_, ?_⟩
  · unfold mrgA; rw [if_pos h3, h4]; exact from_codes q1 fun s hs => (q2 s).2 (.inl hs)
  · unfold mrgA; rw [if_pos h3, h4]; exact from_codes q1 fun s hs => (q2 s).2 (.inr hs)
set_option maxHeartbeats 4000000 in
set_option maxRecDepth 100000 in
theorem known_any {σ : World} {F : List Res} : FnT Try.prog σ F 13 [] [] (fun u ρ => u = .bool true ∧ ρ = []) := by
  refine fn_of 72 Try.func13 rfl Try.ntmps13 rfl ?_
  refine w_seq ?_
  refine w_region ?_
  refine wl_det rfl rfl rfl (op_assign rfl) ?_
  refine wl_nil ?_
  refine st_tn ?_
  refine w_seq ?_
  refine w_region ?_
  refine wl_op [] rfl rfl rfl rfl (op_buildSlice (enc := encT) (l := [[98], [97], [97, 98], [97]]) (lab := 10) tL22_4h rfl rfl (fun _ => rfl) rfl) ?_
  rintro _ _ ⟨a10, c10, rfl, rfl⟩
  refine wl_op [] rfl rfl rfl rfl (op_fn Try.func15 rfl rfl rfl (build_any (l := [[98], [97], [97, 98], [97]]) 11 (Sl.lab 10 rfl (by simp [maxLen])) (by simp))) ?_
  rintro _ _ ⟨a11, c11, rfl, rfl⟩
  refine wl_det rfl rfl rfl (op_move rfl) ?_
  refine wl_det rfl rfl rfl (op_extract rfl rfl) ?_
  refine wl_det rfl rfl rfl (op_extract rfl rfl) ?_
  refine wl_det rfl rfl rfl (op_assign rfl) ?_
  refine wl_det rfl rfl rfl (op_assign rfl) ?_
  refine wl_nil ?_
  refine st_tn ?_
  refine w_seq ?_
  rw [show bldL [[98], [97], [97, 98], [97]] = [[97], [97, 98], [98]] from by decide, show bldE [[98], [97], [97, 98], [97]] = 0 from by decide]
  have hinc : Inc [[97], [97, 98], [98]] := by decide
  refine w_region ?_
  refine wl_op [] rfl rfl rfl rfl (op_buildSlice (enc := encT) (l := [[97], [99]]) (lab := 15) tL22_2h rfl rfl (fun _ => rfl) rfl) ?_
  rintro _ _ ⟨a15, c15, rfl, rfl⟩
  refine wl_op [] rfl rfl rfl rfl (op_buildSlice (enc := encT) (l := [[98], [99]]) (lab := 16) tL22_2h rfl rfl (fun _ => rfl) rfl) ?_
  rintro _ _ ⟨a16, c16, rfl, rfl⟩
  refine wl_op [] rfl rfl rfl rfl (op_fn Try.func20 rfl rfl rfl (merge_any (l := [[97], [99]]) (m := [[98], [99]]) 17 117 217 (Sl.lab 15 rfl (by simp [maxLen])) (Sl.lab 16 rfl (by simp [maxLen])) (by simp))) ?_
  rintro _ _ ⟨a17, c17, p17, q17, s17, t17, rfl, rfl⟩
  refine wl_det rfl rfl rfl (op_move rfl) ?_
  refine wl_det rfl rfl rfl (op_extract rfl rfl) ?_
  refine wl_det rfl rfl rfl (op_extract rfl rfl) ?_
  refine wl_det rfl rfl rfl (op_extract rfl rfl) ?_
  refine wl_det rfl rfl rfl (op_extract rfl rfl) ?_
  refine wl_det rfl rfl rfl (op_assign rfl) ?_
  refine wl_det rfl rfl rfl (op_assign rfl) ?_
  refine wl_det rfl rfl rfl (op_assign rfl) ?_
  refine wl_det rfl rfl rfl (op_assign rfl) ?_
  refine wl_nil ?_
  refine st_tn ?_
  refine w_seq ?_
  rw [show bldL ([[97], [99]] ++ [[98], [99]]) = [[97], [98], [99]] from by decide, show bldE ([[97], [99]] ++ [[98], [99]]) = 0 from by decide, show mrgA [[97], [99]] [[98], [99]] [[97], [99]] = [0, 2] from by decide, show mrgA [[97], [99]] [[98], [99]] [[98], [99]] = [1, 2] from by decide]
  refine w_region ?_
  refine wl_op [] rfl rfl rfl rfl (op_buildSlice (enc := encT) (l := [[97, 112, 105], [97, 112, 112]]) (lab := 23) tL22_2h rfl rfl (fun _ => rfl) rfl) ?_
  rintro _ _ ⟨a23, c23, rfl, rfl⟩
  refine wl_det rfl rfl rfl (op_val (v' := .tuple #[.string (str [0, 2, 3, 97, 112, 105, 2, 1, 112]), .int .i64 0]) (by rw [show chkE [[97, 112, 105], [97, 112, 112]] = 0 from by decide, if_pos rfl, show enc [[97, 112, 105], [97, 112, 112]] = [0, 2, 3, 97, 112, 105, 2, 1, 112] from by decide]) (op_fn Try.func39 rfl rfl rfl (enc_any (l := [[97, 112, 105], [97, 112, 112]]) (Sl.lab 23 rfl (by simp [maxLen])) (by simp) chk_ok))) ?_
  refine wl_det rfl rfl rfl (op_move rfl) ?_
  refine wl_det rfl rfl rfl (op_extract rfl rfl) ?_
  refine wl_det rfl rfl rfl (op_extract rfl rfl) ?_
  refine wl_det rfl rfl rfl (op_assign rfl) ?_
  refine wl_det rfl rfl rfl (op_assign rfl) ?_
  refine wl_nil ?_
  refine st_tn ?_
  refine w_seq ?_
  refine w_region ?_
  refine wl_det rfl rfl rfl (op_move rfl) ?_
  refine wl_op [] rfl rfl rfl rfl (op_buildSlice (enc := encT) (l := [[97], [97, 98], [98]]) (lab := 28) tL22_3h rfl rfl (fun _ => rfl) rfl) ?_
  rintro _ _ ⟨a28, c28, rfl, rfl⟩
  refine wl_det rfl rfl rfl (op_val (v' := .bool true) (by rfl) (op_fn Try.func19 rfl rfl rfl (same_any (Sl.lab 11 rfl (by simp [maxLen])) (Sl.lab 28 rfl (by simp [maxLen]))))) ?_
  refine wl_det rfl rfl rfl (op_move rfl) ?_
  refine wl_wanted_det rfl rfl rfl rfl rfl rfl rfl (op_move rfl) ?_
  refine wl_wanted_det rfl rfl rfl rfl rfl rfl rfl (op_val (v' := .bool true) (by rfl) (op_eql rfl rfl)) ?_
  refine wl_det rfl rfl rfl (op_pick_t rfl rfl) ?_
  refine wl_det rfl rfl rfl (op_move rfl) ?_
  refine wl_wanted_det rfl rfl rfl rfl rfl rfl rfl (op_move rfl) ?_
  refine wl_wanted_det rfl rfl rfl rfl rfl rfl rfl (op_val (v' := .agg #[.int .i64 0, .int .i64 2]) (by rw [show lower [[97], [97, 98], [98]] [97] = 0 from by decide, show prefN [[97], [97, 98], [98]] [97] = 2 from by decide]; rfl) (op_fn Try.func26 rfl rfl rfl (prefix_any (l := [[97], [97, 98], [98]]) [97] (Sl.lab 11 rfl (by simp [maxLen])) hinc (by simp)))) ?_
  refine wl_wanted_det rfl rfl rfl rfl rfl rfl rfl (op_build tB40h rfl rfl) ?_
  refine wl_wanted_det rfl rfl rfl rfl rfl rfl rfl (op_val (v' := .bool true) (by rfl) (op_eqA rfl rfl tG40h (eq40 _ _ _ _))) ?_
  refine wl_det rfl rfl rfl (op_pick_t rfl rfl) ?_
  refine wl_det rfl rfl rfl (op_move rfl) ?_
  refine wl_wanted_det rfl rfl rfl rfl rfl rfl rfl (op_move rfl) ?_
  refine wl_wanted_det rfl rfl rfl rfl rfl rfl rfl (op_val (v' := .int .i64 1) (by rw [show lower [[97], [97, 98], [98]] [97, 97] = 1 from by decide]; rfl) (op_fn Try.func24 rfl rfl rfl (lower_any (l := [[97], [97, 98], [98]]) [97, 97] (Sl.lab 11 rfl (by simp [maxLen])) hinc (by simp)))) ?_
  refine wl_wanted_det rfl rfl rfl rfl rfl rfl rfl (op_val (v' := .bool true) (by rfl) (op_eql rfl rfl)) ?_
  refine wl_det rfl rfl rfl (op_pick_t rfl rfl) ?_
  refine wl_det rfl rfl rfl (op_move rfl) ?_
  refine wl_wanted_det rfl rfl rfl rfl rfl rfl rfl (op_move rfl) ?_
  refine wl_wanted [] rfl rfl rfl rfl rfl rfl rfl rfl (op_buildSlice (enc := encT) (l := [[97], [98], [99]]) (lab := 47) tL22_3h rfl rfl (fun _ => rfl) rfl) ?_
  rintro _ _ ⟨a47, c47, rfl, rfl⟩
  refine wl_wanted_det rfl rfl rfl rfl rfl rfl rfl (op_val (v' := .bool true) (by rfl) (op_fn Try.func19 rfl rfl rfl (same_any (Sl.lab 17 rfl (by simp [maxLen])) (Sl.lab 47 rfl (by simp [maxLen]))))) ?_
  refine wl_det rfl rfl rfl (op_pick_t rfl rfl) ?_
  refine wl_det rfl rfl rfl (op_move rfl) ?_
  refine wl_wanted_det rfl rfl rfl rfl rfl rfl rfl (op_move rfl) ?_
  refine wl_wanted [] rfl rfl rfl rfl rfl rfl rfl rfl (op_buildSlice (enc := encZ) (l := [0, 2]) (lab := 52) tL31_2h rfl rfl (fun _ => rfl) rfl) ?_
  rintro _ _ ⟨a52, c52, rfl, rfl⟩
  refine wl_wanted_det rfl rfl rfl rfl rfl rfl rfl (op_val (v' := .bool true) (by rfl) (op_fn Try.func29 rfl rfl rfl (sameI_any (Sl.lab 117 rfl (by simp [maxLen])) (Sl.lab 52 rfl (by simp [maxLen]))))) ?_
  refine wl_det rfl rfl rfl (op_pick_t rfl rfl) ?_
  refine wl_det rfl rfl rfl (op_move rfl) ?_
  refine wl_wanted_det rfl rfl rfl rfl rfl rfl rfl (op_move rfl) ?_
  refine wl_wanted [] rfl rfl rfl rfl rfl rfl rfl rfl (op_buildSlice (enc := encZ) (l := [1, 2]) (lab := 57) tL31_2h rfl rfl (fun _ => rfl) rfl) ?_
  rintro _ _ ⟨a57, c57, rfl, rfl⟩
  refine wl_wanted_det rfl rfl rfl rfl rfl rfl rfl (op_val (v' := .bool true) (by rfl) (op_fn Try.func29 rfl rfl rfl (sameI_any (Sl.lab 217 rfl (by simp [maxLen])) (Sl.lab 57 rfl (by simp [maxLen]))))) ?_
  refine wl_det rfl rfl rfl (op_pick_t rfl rfl) ?_
  refine wl_det rfl rfl rfl (op_move rfl) ?_
  refine wl_wanted_det rfl rfl rfl rfl rfl rfl rfl (op_move rfl) ?_
  refine wl_wanted_det rfl rfl rfl rfl rfl rfl rfl (op_val (v' := .bool true) (by rfl) (op_eql rfl rfl)) ?_
  refine wl_det rfl rfl rfl (op_pick_t rfl rfl) ?_
  refine wl_det rfl rfl rfl (op_move rfl) ?_
  refine wl_wanted_det rfl rfl rfl rfl rfl rfl rfl (op_move rfl) ?_
  refine wl_wanted_det rfl rfl rfl rfl rfl rfl rfl (op_val (v' := .bool true) (by rfl) (op_eqBs (t := [0, 2, 3, 97, 112, 105, 2, 1, 112]) rfl rfl)) ?_
  refine wl_det rfl rfl rfl (op_pick_t rfl rfl) ?_
  refine wl_det rfl rfl rfl (op_move rfl) ?_
  refine wl_wanted_det rfl rfl rfl rfl rfl rfl rfl (op_move rfl) ?_
  refine wl_wanted_det rfl rfl rfl rfl rfl rfl rfl (op_val (v' := .bool true) (by rfl) (op_eql rfl rfl)) ?_
  refine wl_det rfl rfl rfl (op_pick_t rfl rfl) ?_
  refine wl_det rfl rfl rfl (op_assign rfl) ?_
  refine wl_nil ?_
  refine st_tn ?_
  refine w_ret ?_
  refine st_ret (vs := [_]) [] Try.results13 ⟨rfl, trivial⟩ rfl ?_
  refine ⟨_, rfl, ?_⟩
  exact ⟨rfl, rfl⟩

set_option maxHeartbeats 2000000 in
set_option maxRecDepth 100000 in
theorem lawChecks_any {σ : World} {F : List Res} {a : Option Addr} {c : Nat} {l : List Bs} (h : Sl σ F encT 1 (.slice a l.length c) l) :
    FnT Try.prog σ F 3 [.slice a l.length c] [] (fun u ρ => u = .bool true ∧ ρ = []) := by
  refine fn_of 49 Try.func3 rfl Try.ntmps3 rfl ?_
  refine w_seq ?_
  refine w_region ?_
  refine wl_det rfl rfl rfl (op_assign rfl) ?_
  refine wl_nil ?_
  refine st_tn ?_
  refine w_seq ?_
  refine w_seq ?_
  refine w_region ?_
  refine wl_det rfl rfl rfl (op_fn Try.func13 rfl rfl rfl (known_any)) ?_
  refine wl_det rfl rfl rfl (op_not_t rfl) ?_
  refine wl_det rfl rfl rfl (op_move rfl) ?_
  refine wl_wanted_det rfl rfl rfl rfl rfl rfl rfl (op_move rfl) ?_
  refine wl_wanted_det rfl rfl rfl rfl rfl rfl rfl (op_fn Try.func14 rfl rfl rfl (few_any (by first | exact Sl.app (by assumption) _ | exact Sl.app (Sl.app (by assumption) _) _))) ?_
  refine wl_wanted_det rfl rfl rfl rfl rfl rfl rfl (op_not_d rfl) ?_
  refine wl_det rfl rfl rfl (op_pick_f rfl rfl) ?_
  refine wl_nil ?_
  refine st_tn ?_
  refine w_cond_d rfl (fun hc13 => ?_) (fun hc13 => ?_)
  · -- c13.t
    refine w_seq ?_
    refine w_region ?_
    refine wl_det rfl rfl rfl (op_fn Try.func13 rfl rfl rfl (known_any)) ?_
    refine wl_det rfl rfl rfl (op_assign rfl) ?_
    refine wl_nil ?_
    refine st_tn ?_
    refine w_ret ?_
    refine st_tr ?_
    refine st_ret (vs := [_]) [] Try.results3 ⟨rfl, trivial⟩ rfl ?_
    refine ⟨_, rfl, ?_⟩
    exact ⟨rfl, rfl⟩
  · -- c13.f
    obtain ⟨hf1, hf2⟩ : Few l := Classical.not_not.1 hc13
    have hb1 := bld_few l
    have hb2 := chk_bld l
    refine w_skip ?_
    refine st_tn ?_
    refine w_seq ?_
    refine w_region ?_
    refine wl_det rfl rfl rfl (op_move rfl) ?_
    refine wl_op [] rfl rfl rfl rfl (op_fn Try.func15 rfl rfl rfl (build_any 17 (by first | exact Sl.app (by assumption) _ | exact Sl.app (Sl.app (by assumption) _) _) (by omega))) ?_
    rintro _ _ ⟨a17, c17, rfl, rfl⟩
    refine wl_det rfl rfl rfl (op_move rfl) ?_
    refine wl_det rfl rfl rfl (op_extract rfl rfl) ?_
    refine wl_det rfl rfl rfl (op_extract rfl rfl) ?_
    refine wl_det rfl rfl rfl (op_assign rfl) ?_
    refine wl_det rfl rfl rfl (op_assign rfl) ?_
    refine wl_nil ?_
    refine st_tn ?_
    refine w_seq ?_
    refine w_region ?_
    refine wl_det rfl rfl rfl (op_move rfl) ?_
    refine wl_op [] rfl rfl rfl rfl (op_fn Try.func16 rfl rfl rfl (rbuild_any 22 (by first | exact Sl.app (by assumption) _ | exact Sl.app (Sl.app (by assumption) _) _) (by omega))) ?_
    rintro _ _ ⟨a22, c22, rfl, rfl⟩
    refine wl_det rfl rfl rfl (op_move rfl) ?_
    refine wl_det rfl rfl rfl (op_extract rfl rfl) ?_
    refine wl_det rfl rfl rfl (op_extract rfl rfl) ?_
    refine wl_det rfl rfl rfl (op_assign rfl) ?_
    refine wl_det rfl rfl rfl (op_assign rfl) ?_
    refine wl_nil ?_
    refine st_tn ?_
    refine w_seq ?_
    refine w_region ?_
    refine wl_det rfl rfl rfl (op_move rfl) ?_
    refine wl_det rfl rfl rfl (op_fn Try.func17 rfl rfl rfl (check_any (Sl.app h _) (by omega))) ?_
    refine wl_det rfl rfl rfl (op_move rfl) ?_
    refine wl_det rfl rfl rfl (op_fn Try.func18 rfl rfl rfl (rcheck_any (Sl.app h _) (by omega))) ?_
    refine wl_det rfl rfl rfl (op_val (v' := .bool true) (by simp) (op_eql rfl rfl)) ?_
    refine wl_det rfl rfl rfl (op_move rfl) ?_
    refine wl_wanted_det rfl rfl rfl rfl rfl rfl rfl (op_move rfl) ?_
    refine wl_wanted_det rfl rfl rfl rfl rfl rfl rfl (op_move rfl) ?_
    refine wl_wanted_det rfl rfl rfl rfl rfl rfl rfl (op_val (v' := .bool true) (by simp) (op_fn Try.func19 rfl rfl rfl (same_any (Sl.lab 17 rfl (by unfold maxLen; omega)) (Sl.lab 22 rfl (by unfold maxLen; omega))))) ?_
    refine wl_det rfl rfl rfl (op_pick_t rfl rfl) ?_
    refine wl_det rfl rfl rfl (op_move rfl) ?_
    refine wl_wanted_det rfl rfl rfl rfl rfl rfl rfl (op_move rfl) ?_
    refine wl_wanted_det rfl rfl rfl rfl rfl rfl rfl (op_move rfl) ?_
    refine wl_wanted_det rfl rfl rfl rfl rfl rfl rfl (op_val (v' := .bool true) (by simp) (op_eql rfl rfl)) ?_
    refine wl_det rfl rfl rfl (op_pick_t rfl rfl) ?_
    refine wl_det rfl rfl rfl (op_move rfl) ?_
    refine wl_wanted_det rfl rfl rfl rfl rfl rfl rfl (op_move rfl) ?_
    refine wl_wanted_det rfl rfl rfl rfl rfl rfl rfl (op_neq rfl rfl) ?_
    refine wl_wanted_det rfl rfl rfl rfl rfl rfl rfl (op_move rfl) ?_
    refine wl_gsplit (t := 43) rfl (fun hg43 => ?_) (fun hg43 => ?_)
    · -- 43 is True
      refine wl_unwanted rfl rfl rfl rfl rfl rfl rfl rfl ?_
      refine wl_unwanted rfl rfl rfl rfl rfl rfl rfl rfl ?_
      refine wl_unwanted rfl rfl rfl rfl rfl rfl rfl rfl ?_
      refine wl_wanted_det rfl rfl rfl rfl rfl rfl rfl (op_pick_t rfl rfl) ?_
      refine wl_det rfl rfl rfl (op_pick_t rfl rfl) ?_
      refine wl_det rfl rfl rfl (op_assign rfl) ?_
      refine wl_nil ?_
      refine st_tn ?_
      refine w_ret ?_
      refine st_ret (vs := [_]) [] Try.results3 ⟨rfl, trivial⟩ rfl ?_
      refine ⟨_, rfl, ?_⟩
      exact ⟨rfl, rfl⟩
    · -- 43 is False
      refine wl_wanted_det rfl rfl rfl rfl rfl rfl rfl (op_move rfl) ?_
      refine wl_wanted_det rfl rfl rfl rfl rfl rfl rfl (op_fn Try.func17 rfl rfl rfl (check_any (Sl.lab 17 rfl (by unfold maxLen; omega)) (by omega))) ?_
      refine wl_wanted_det rfl rfl rfl rfl rfl rfl rfl (op_val (v' := .bool true) (by rw [hb2]; rfl) (op_eql rfl rfl)) ?_
      refine wl_wanted_det rfl rfl rfl rfl rfl rfl rfl (op_pick_f rfl rfl) ?_
      refine wl_det rfl rfl rfl (op_pick_t rfl rfl) ?_
      refine wl_det rfl rfl rfl (op_assign rfl) ?_
      refine wl_nil ?_
      refine st_tn ?_
      refine w_ret ?_
      refine st_ret (vs := [_]) [] Try.results3 ⟨rfl, trivial⟩ rfl ?_
      refine ⟨_, rfl, ?_⟩
      exact ⟨rfl, rfl⟩

set_option maxHeartbeats 2000000 in
set_option maxRecDepth 100000 in
theorem lawFinds_any {σ : World} {F : List Res} {a : Option Addr} {c : Nat} {l : List Bs} (s : Bs) (h : Sl σ F encT 1 (.slice a l.length c) l) :
    FnT Try.prog σ F 5 [.slice a l.length c, .string (str s)] [] (fun u ρ => u = .bool true ∧ ρ = []) := by
  refine fn_of 63 Try.func5 rfl Try.ntmps5 rfl ?_
  refine w_seq ?_
  refine w_region ?_
  refine wl_det rfl rfl rfl (op_assign rfl) ?_
  refine wl_nil ?_
  refine st_tn ?_
  refine w_seq ?_
  refine w_seq ?_
  refine w_cutL [(21, .bool (decide (¬ Few l ∨ (s.length : Int) > 300)))] [0, 1] [] rfl (fun K' hK => ?_) ?_
  · -- cut r1
    refine w_region ?_
    refine wl_det rfl rfl rfl (op_fn Try.func13 rfl rfl rfl (known_any)) ?_
    refine wl_det rfl rfl rfl (op_not_t rfl) ?_
    refine wl_det rfl rfl rfl (op_move rfl) ?_
    refine wl_wanted_det rfl rfl rfl rfl rfl rfl rfl (op_move rfl) ?_
    refine wl_wanted_det rfl rfl rfl rfl rfl rfl rfl (op_fn Try.func14 rfl rfl rfl (few_any (by first | exact Sl.app (by assumption) _ | exact Sl.app (Sl.app (by assumption) _) _))) ?_
    refine wl_wanted_det rfl rfl rfl rfl rfl rfl rfl (op_not_d rfl) ?_
    refine wl_det rfl rfl rfl (op_pick_f rfl rfl) ?_
    refine wl_det rfl rfl rfl (op_move rfl) ?_
    refine wl_gsplit (t := 17) rfl (fun hg17 => ?_) (fun hg17 => ?_)
    · -- 17 is True
      refine wl_unwanted rfl rfl rfl rfl rfl rfl rfl rfl ?_
      refine wl_unwanted rfl rfl rfl rfl rfl rfl rfl rfl ?_
      refine wl_unwanted rfl rfl rfl rfl rfl rfl rfl rfl ?_
      refine wl_det rfl rfl rfl (op_pick_t rfl rfl) ?_
      refine wl_nil ?_
      refine st_tn ?_
      exact cut_done1 [] hK rfl (by first | (simp [*]; done) | (simp [*]; omega)) (by rfl) rfl rfl
    · -- 17 is False
      refine wl_wanted_det rfl rfl rfl rfl rfl rfl rfl (op_move rfl) ?_
      refine wl_wanted_det rfl rfl rfl rfl rfl rfl rfl (op_lenBs rfl Try.underlying9) ?_
      refine wl_wanted_det rfl rfl rfl rfl rfl rfl rfl (op_gtr rfl rfl) ?_
      refine wl_det rfl rfl rfl (op_pick_f rfl rfl) ?_
      refine wl_nil ?_
      refine st_tn ?_
      exact cut_done1 [] hK rfl (by first | (simp [*]; done) | (simp [*]; omega)) (by rfl) rfl rfl
  · -- behind r1
    show W _ _ _ _ _ [(21, _), (0, _), (1, _)] [] _
    refine w_cond_d rfl (fun hc21 => ?_) (fun hc21 => ?_)
    · -- c21.t
      refine w_seq ?_
      refine w_region ?_
      refine wl_det rfl rfl rfl (op_fn Try.func13 rfl rfl rfl (known_any)) ?_
      refine wl_det rfl rfl rfl (op_assign rfl) ?_
      refine wl_nil ?_
      refine st_tn ?_
      refine w_ret ?_
      refine st_tr ?_
      refine st_ret (vs := [_]) [] Try.results5 ⟨rfl, trivial⟩ rfl ?_
      refine ⟨_, rfl, ?_⟩
      exact ⟨rfl, rfl⟩
    · -- c21.f
      obtain ⟨hf1, hf2⟩ : Few l := Classical.byContradiction fun h => hc21 (.inl h)
      have hinc := dict_inc l
      have hlen := dict_len l
      refine w_skip ?_
      refine st_tn ?_
      refine w_seq ?_
      refine w_region ?_
      refine wl_det rfl rfl rfl (op_move rfl) ?_
      refine wl_op [] rfl rfl rfl rfl (op_fn Try.func21 rfl rfl rfl (dictOf_any 24 (by first | exact Sl.app (by assumption) _ | exact Sl.app (Sl.app (by assumption) _) _) (by omega))) ?_
      rintro _ _ ⟨a24, c24, rfl, rfl⟩
      refine wl_det rfl rfl rfl (op_assign rfl) ?_
      refine wl_nil ?_
      refine st_tn ?_
      refine w_seq ?_
      refine w_region ?_
      refine wl_det rfl rfl rfl (op_move rfl) ?_
      refine wl_det rfl rfl rfl (op_move rfl) ?_
      refine wl_det rfl rfl rfl (op_fn Try.func22 rfl rfl rfl (find_any _ (Sl.lab 24 rfl (by unfold maxLen; omega)) (by assumption) (by omega))) ?_
      refine wl_det rfl rfl rfl (op_move rfl) ?_
      refine wl_det rfl rfl rfl (op_extract rfl rfl) ?_
      refine wl_det rfl rfl rfl (op_extract rfl rfl) ?_
      refine wl_det rfl rfl rfl (op_assign rfl) ?_
      refine wl_det rfl rfl rfl (op_assign rfl) ?_
      refine wl_nil ?_
      refine st_tn ?_
      refine w_seq ?_
      refine w_region ?_
      refine wl_det rfl rfl rfl (op_move rfl) ?_
      refine wl_det rfl rfl rfl (op_move rfl) ?_
      refine wl_det rfl rfl rfl (op_fn Try.func23 rfl rfl rfl (rfind_any _ (Sl.lab 24 rfl (by unfold maxLen; omega)))) ?_
      refine wl_det rfl rfl rfl (op_move rfl) ?_
      refine wl_det rfl rfl rfl (op_extract rfl rfl) ?_
      refine wl_det rfl rfl rfl (op_extract rfl rfl) ?_
      refine wl_det rfl rfl rfl (op_assign rfl) ?_
      refine wl_det rfl rfl rfl (op_assign rfl) ?_
      refine wl_nil ?_
      refine st_tn ?_
      refine w_seq ?_
      refine w_region ?_
      refine wl_det rfl rfl rfl (op_move rfl) ?_
      refine wl_det rfl rfl rfl (op_move rfl) ?_
      refine wl_det rfl rfl rfl (op_val (v' := .bool true) (by simp) (op_eql rfl rfl)) ?_
      refine wl_det rfl rfl rfl (op_move rfl) ?_
      refine wl_wanted_det rfl rfl rfl rfl rfl rfl rfl (op_move rfl) ?_
      refine wl_wanted_det rfl rfl rfl rfl rfl rfl rfl (op_move rfl) ?_
      refine wl_wanted_det rfl rfl rfl rfl rfl rfl rfl (op_val (v' := .bool true) (by simp) (op_eqB rfl rfl Try.underlying4)) ?_
      refine wl_det rfl rfl rfl (op_pick_t rfl rfl) ?_
      refine wl_det rfl rfl rfl (op_move rfl) ?_
      refine wl_wanted_det rfl rfl rfl rfl rfl rfl rfl (op_move rfl) ?_
      refine wl_wanted_det rfl rfl rfl rfl rfl rfl rfl (op_move rfl) ?_
      refine wl_wanted_det rfl rfl rfl rfl rfl rfl rfl (op_fn Try.func24 rfl rfl rfl (lower_any _ (Sl.lab 24 rfl (by unfold maxLen; omega)) (by assumption) (by omega))) ?_
      refine wl_wanted_det rfl rfl rfl rfl rfl rfl rfl (op_move rfl) ?_
      refine wl_wanted_det rfl rfl rfl rfl rfl rfl rfl (op_move rfl) ?_
      refine wl_wanted_det rfl rfl rfl rfl rfl rfl rfl (op_fn Try.func25 rfl rfl rfl (rlower_any _ (Sl.lab 24 rfl (by unfold maxLen; omega)))) ?_
      refine wl_wanted_det rfl rfl rfl rfl rfl rfl rfl (op_val (v' := .bool true) (by simp) (op_eql rfl rfl)) ?_
      refine wl_det rfl rfl rfl (op_pick_t rfl rfl) ?_
      refine wl_det rfl rfl rfl (op_move rfl) ?_
      refine wl_wanted_det rfl rfl rfl rfl rfl rfl rfl (op_move rfl) ?_
      refine wl_wanted_det rfl rfl rfl rfl rfl rfl rfl (op_move rfl) ?_
      refine wl_wanted_det rfl rfl rfl rfl rfl rfl rfl (op_fn Try.func26 rfl rfl rfl (prefix_any _ (Sl.lab 24 rfl (by unfold maxLen; omega)) (by assumption) (by omega))) ?_
      refine wl_wanted_det rfl rfl rfl rfl rfl rfl rfl (op_move rfl) ?_
      refine wl_wanted_det rfl rfl rfl rfl rfl rfl rfl (op_move rfl) ?_
      refine wl_wanted_det rfl rfl rfl rfl rfl rfl rfl (op_fn Try.func27 rfl rfl rfl (rprefix_any _ (Sl.lab 24 rfl (by unfold maxLen; omega)) (by omega))) ?_
      refine wl_wanted_det rfl rfl rfl rfl rfl rfl rfl (op_val (v' := .bool true) (by simp) (op_eqA rfl rfl tG40h (eq40 _ _ _ _))) ?_
      refine wl_det rfl rfl rfl (op_pick_t rfl rfl) ?_
      refine wl_det rfl rfl rfl (op_assign rfl) ?_
      refine wl_nil ?_
      refine st_tn ?_
      refine w_ret ?_
      refine st_ret (vs := [_]) [] Try.results5 ⟨rfl, trivial⟩ rfl ?_
      refine ⟨_, rfl, ?_⟩
      exact ⟨rfl, rfl⟩

set_option maxHeartbeats 2000000 in
set_option maxRecDepth 100000 in
theorem lawRemaps_any {σ : World} {F : List Res} {a b : Option Addr} {c d : Nat} {l m : List Int} (h : Sl σ F encZ 1 (.slice a l.length c) l) (g : Sl σ F encZ 1 (.slice b m.length d) m) :
    FnT Try.prog σ F 8 [.slice a l.length c, .slice b m.length d] [] (fun u ρ => u = .bool true ∧ ρ = []) := by
  refine fn_of 42 Try.func8 rfl Try.ntmps8 rfl ?_
  refine w_seq ?_
  refine w_region ?_
  refine wl_det rfl rfl rfl (op_assign rfl) ?_
  refine wl_nil ?_
  refine st_tn ?_
  refine w_seq ?_
  refine w_seq ?_
  refine w_cutL [(20, .bool (decide ((l.length : Int) > 100 ∨ (m.length : Int) > 100)))] [0, 1] [] rfl (fun K' hK => ?_) ?_
  · -- cut r1
    refine w_region ?_
    refine wl_det rfl rfl rfl (op_fn Try.func13 rfl rfl rfl (known_any)) ?_
    refine wl_det rfl rfl rfl (op_not_t rfl) ?_
    refine wl_det rfl rfl rfl (op_move rfl) ?_
    refine wl_wanted_det rfl rfl rfl rfl rfl rfl rfl (op_move rfl) ?_
    refine wl_wanted_det rfl rfl rfl rfl rfl rfl rfl (op_lenT rfl tS31h (Sl.ent (by first | exact Sl.app (by assumption) _ | exact Sl.app (Sl.app (by assumption) _) _))) ?_
    refine wl_wanted_det rfl rfl rfl rfl rfl rfl rfl (op_gtr rfl rfl) ?_
    refine wl_det rfl rfl rfl (op_pick_f rfl rfl) ?_
    refine wl_det rfl rfl rfl (op_move rfl) ?_
    refine wl_gsplit (t := 16) rfl (fun hg16 => ?_) (fun hg16 => ?_)
    · -- 16 is True
      refine wl_unwanted rfl rfl rfl rfl rfl rfl rfl rfl ?_
      refine wl_unwanted rfl rfl rfl rfl rfl rfl rfl rfl ?_
      refine wl_unwanted rfl rfl rfl rfl rfl rfl rfl rfl ?_
      refine wl_det rfl rfl rfl (op_pick_t rfl rfl) ?_
      refine wl_nil ?_
      refine st_tn ?_
      exact cut_done1 [] hK rfl (by first | (simp [*]; done) | (simp [*]; omega)) (by rfl) rfl rfl
    · -- 16 is False
      refine wl_wanted_det rfl rfl rfl rfl rfl rfl rfl (op_move rfl) ?_
      refine wl_wanted_det rfl rfl rfl rfl rfl rfl rfl (op_lenT rfl tS31h (Sl.ent (by first | exact Sl.app (by assumption) _ | exact Sl.app (Sl.app (by assumption) _) _))) ?_
      refine wl_wanted_det rfl rfl rfl rfl rfl rfl rfl (op_gtr rfl rfl) ?_
      refine wl_det rfl rfl rfl (op_pick_f rfl rfl) ?_
      refine wl_nil ?_
      refine st_tn ?_
      exact cut_done1 [] hK rfl (by first | (simp [*]; done) | (simp [*]; omega)) (by rfl) rfl rfl
  · -- behind r1
    show W _ _ _ _ _ [(20, _), (0, _), (1, _)] [] _
    refine w_cond_d rfl (fun hc20 => ?_) (fun hc20 => ?_)
    · -- c20.t
      refine w_seq ?_
      refine w_region ?_
      refine wl_det rfl rfl rfl (op_fn Try.func13 rfl rfl rfl (known_any)) ?_
      refine wl_det rfl rfl rfl (op_assign rfl) ?_
      refine wl_nil ?_
      refine st_tn ?_
      refine w_ret ?_
      refine st_tr ?_
      refine st_ret (vs := [_]) [] Try.results8 ⟨rfl, trivial⟩ rfl ?_
      refine ⟨_, rfl, ?_⟩
      exact ⟨rfl, rfl⟩
    · -- c20.f
      have hrl := remL_len l m
      refine w_skip ?_
      refine st_tn ?_
      refine w_seq ?_
      refine w_region ?_
      refine wl_det rfl rfl rfl (op_move rfl) ?_
      refine wl_det rfl rfl rfl (op_move rfl) ?_
      refine wl_op [] rfl rfl rfl rfl (op_fn Try.func35 rfl rfl rfl (remap_any 25 (Sl.app h _) (Sl.app g _) (by omega))) ?_
      rintro _ _ ⟨a25, c25, rfl, rfl⟩
      refine wl_det rfl rfl rfl (op_move rfl) ?_
      refine wl_det rfl rfl rfl (op_extract rfl rfl) ?_
      refine wl_det rfl rfl rfl (op_extract rfl rfl) ?_
      refine wl_det rfl rfl rfl (op_assign rfl) ?_
      refine wl_det rfl rfl rfl (op_assign rfl) ?_
      refine wl_nil ?_
      refine st_tn ?_
      refine w_seq ?_
      refine w_region ?_
      refine wl_det rfl rfl rfl (op_move rfl) ?_
      refine wl_det rfl rfl rfl (op_move rfl) ?_
      refine wl_op [] rfl rfl rfl rfl (op_fn Try.func36 rfl rfl rfl (rremap_any 31 (Sl.app h _) (Sl.app g _) (by omega))) ?_
      rintro _ _ ⟨a31, c31, rfl, rfl⟩
      refine wl_det rfl rfl rfl (op_move rfl) ?_
      refine wl_det rfl rfl rfl (op_extract rfl rfl) ?_
      refine wl_det rfl rfl rfl (op_extract rfl rfl) ?_
      refine wl_det rfl rfl rfl (op_assign rfl) ?_
      refine wl_det rfl rfl rfl (op_assign rfl) ?_
      refine wl_nil ?_
      refine st_tn ?_
      refine w_seq ?_
      refine w_region ?_
      refine wl_det rfl rfl rfl (op_move rfl) ?_
      refine wl_det rfl rfl rfl (op_move rfl) ?_
      refine wl_det rfl rfl rfl (op_val (v' := .bool true) (by simp) (op_fn Try.func29 rfl rfl rfl (sameI_any (Sl.lab 25 rfl (by unfold maxLen; omega)) (Sl.lab 31 rfl (by unfold maxLen; omega))))) ?_
      refine wl_det rfl rfl rfl (op_move rfl) ?_
      refine wl_wanted_det rfl rfl rfl rfl rfl rfl rfl (op_move rfl) ?_
      refine wl_wanted_det rfl rfl rfl rfl rfl rfl rfl (op_move rfl) ?_
      refine wl_wanted_det rfl rfl rfl rfl rfl rfl rfl (op_val (v' := .bool true) (by simp) (op_eql rfl rfl)) ?_
      refine wl_det rfl rfl rfl (op_pick_t rfl rfl) ?_
      refine wl_det rfl rfl rfl (op_assign rfl) ?_
      refine wl_nil ?_
      refine st_tn ?_
      refine w_ret ?_
      refine st_ret (vs := [_]) [] Try.results8 ⟨rfl, trivial⟩ rfl ?_
      refine ⟨_, rfl, ?_⟩
      exact ⟨rfl, rfl⟩

set_option maxHeartbeats 2000000 in
set_option maxRecDepth 100000 in
theorem lawCodes_any {σ : World} {F : List Res} {a b b' : Option Addr} {c d d' : Nat} {l m : List Bs} {cs : List Int} (h : Sl σ F encT 1 (.slice a l.length c) l) (g : Sl σ F encT 1 (.slice b m.length d) m) (k : Sl σ F encZ 1 (.slice b' cs.length d') cs) :
    FnT Try.prog σ F 7 [.slice a l.length c, .slice b m.length d, .slice b' cs.length d'] [] (fun u ρ => u = .bool true ∧ ρ = []) := by
  refine fn_of 97 Try.func7 rfl Try.ntmps7 rfl ?_
  refine w_seq ?_
  refine w_region ?_
  refine wl_det rfl rfl rfl (op_assign rfl) ?_
  refine wl_nil ?_
  refine st_tn ?_
  refine w_seq ?_
  refine w_seq ?_
  refine w_cutL [(34, .bool (decide ((¬ Few l ∨ ¬ Few m) ∨ (cs.length : Int) > 100)))] [0, 1, 2] [] rfl (fun K' hK => ?_) ?_
  · -- cut r1
    refine w_region ?_
    refine wl_det rfl rfl rfl (op_fn Try.func13 rfl rfl rfl (known_any)) ?_
    refine wl_det rfl rfl rfl (op_not_t rfl) ?_
    refine wl_det rfl rfl rfl (op_move rfl) ?_
    refine wl_wanted_det rfl rfl rfl rfl rfl rfl rfl (op_move rfl) ?_
    refine wl_wanted_det rfl rfl rfl rfl rfl rfl rfl (op_fn Try.func14 rfl rfl rfl (few_any (Sl.app h _))) ?_
    refine wl_wanted_det rfl rfl rfl rfl rfl rfl rfl (op_not_d rfl) ?_
    refine wl_det rfl rfl rfl (op_pick_f rfl rfl) ?_
    refine wl_det rfl rfl rfl (op_move rfl) ?_
    refine wl_gsplit (t := 25) rfl (fun hg25 => ?_) (fun hg25 => ?_)
    · -- 25 is True
      refine wl_unwanted rfl rfl rfl rfl rfl rfl rfl rfl ?_
      refine wl_unwanted rfl rfl rfl rfl rfl rfl rfl rfl ?_
      refine wl_unwanted rfl rfl rfl rfl rfl rfl rfl rfl ?_
      refine wl_det rfl rfl rfl (op_pick_t rfl rfl) ?_
      refine wl_det rfl rfl rfl (op_move rfl) ?_
      refine wl_unwanted rfl rfl rfl rfl rfl rfl rfl rfl ?_
      refine wl_unwanted rfl rfl rfl rfl rfl rfl rfl rfl ?_
      refine wl_unwanted rfl rfl rfl rfl rfl rfl rfl rfl ?_
      refine wl_det rfl rfl rfl (op_pick_t rfl rfl) ?_
      refine wl_nil ?_
      refine st_tn ?_
      exact cut_done1 [] hK rfl (by first | (simp [*]; done) | (simp [*]; omega)) (by rfl) rfl rfl
    · -- 25 is False
      refine wl_wanted_det rfl rfl rfl rfl rfl rfl rfl (op_move rfl) ?_
      refine wl_wanted_det rfl rfl rfl rfl rfl rfl rfl (op_fn Try.func14 rfl rfl rfl (few_any (Sl.app g _))) ?_
      refine wl_wanted_det rfl rfl rfl rfl rfl rfl rfl (op_not_d rfl) ?_
      refine wl_det rfl rfl rfl (op_pick_f rfl rfl) ?_
      refine wl_det rfl rfl rfl (op_move rfl) ?_
      refine wl_gsplit (t := 30) rfl (fun hg30 => ?_) (fun hg30 => ?_)
      · -- 30 is True
        refine wl_unwanted rfl rfl rfl rfl rfl rfl rfl rfl ?_
        refine wl_unwanted rfl rfl rfl rfl rfl rfl rfl rfl ?_
        refine wl_unwanted rfl rfl rfl rfl rfl rfl rfl rfl ?_
        refine wl_det rfl rfl rfl (op_pick_t rfl rfl) ?_
        refine wl_nil ?_
        refine st_tn ?_
        exact cut_done1 [] hK rfl (by first | (simp [*]; done) | (simp [*]; omega)) (by rfl) rfl rfl
      · -- 30 is False
        refine wl_wanted_det rfl rfl rfl rfl rfl rfl rfl (op_move rfl) ?_
        refine wl_wanted_det rfl rfl rfl rfl rfl rfl rfl (op_lenT rfl tS31h (Sl.ent (by first | exact Sl.app (by assumption) _ | exact Sl.app (Sl.app (by assumption) _) _))) ?_
        refine wl_wanted_det rfl rfl rfl rfl rfl rfl rfl (op_gtr rfl rfl) ?_
        refine wl_det rfl rfl rfl (op_pick_f rfl rfl) ?_
        refine wl_nil ?_
        refine st_tn ?_
        exact cut_done1 [] hK rfl (by first | (simp [*]; done) | (simp [*]; omega)) (by rfl) rfl rfl
  · -- behind r1
    show W _ _ _ _ _ [(34, _), (0, _), (1, _), (2, _)] [] _
    refine w_cond_d rfl (fun hc34 => ?_) (fun hc34 => ?_)
    · -- c34.t
      refine w_seq ?_
      refine w_region ?_
      refine wl_det rfl rfl rfl (op_fn Try.func13 rfl rfl rfl (known_any)) ?_
      refine wl_det rfl rfl rfl (op_assign rfl) ?_
      refine wl_nil ?_
      refine st_tn ?_
      refine w_ret ?_
      refine st_tr ?_
      refine st_ret (vs := [_]) [] Try.results7 ⟨rfl, trivial⟩ rfl ?_
      refine ⟨_, rfl, ?_⟩
      exact ⟨rfl, rfl⟩
    · -- c34.f
      obtain ⟨hf1, hf2⟩ : Few l := Classical.byContradiction fun h => hc34 (.inl (.inl h))
      obtain ⟨hm1, hm2⟩ : Few m := Classical.byContradiction fun h => hc34 (.inl (.inr h))
      have hinc := dict_inc l
      have hlen := dict_len l
      have hcl := codesL_len (dictOf l) m
      have hsl := strL_len (dictOf l) cs
      have hs2 := strL_len (dictOf l) (codesL (dictOf l) m)
      have hcs : ¬ (cs.length : Int) > 100 := fun h => hc34 (.inr h)
      refine w_skip ?_
      refine st_tn ?_
      refine w_seq ?_
      refine w_region ?_
      refine wl_det rfl rfl rfl (op_move rfl) ?_
      refine wl_op [] rfl rfl rfl rfl (op_fn Try.func21 rfl rfl rfl (dictOf_any 37 (Sl.app h _) (by omega))) ?_
      rintro _ _ ⟨a37, c37, rfl, rfl⟩
      refine wl_det rfl rfl rfl (op_assign rfl) ?_
      refine wl_nil ?_
      refine st_tn ?_
      refine w_seq ?_
      refine w_region ?_
      refine wl_det rfl rfl rfl (op_move rfl) ?_
      refine wl_det rfl rfl rfl (op_move rfl) ?_
      refine wl_op [] rfl rfl rfl rfl (op_fn Try.func31 rfl rfl rfl (codes_any 41 (Sl.lab 37 rfl (by unfold maxLen; omega)) (Sl.app g _) (by assumption) (by omega) (by omega))) ?_
      rintro _ _ ⟨a41, c41, rfl, rfl⟩
      refine wl_det rfl rfl rfl (op_move rfl) ?_
      refine wl_det rfl rfl rfl (op_extract rfl rfl) ?_
      refine wl_det rfl rfl rfl (op_extract rfl rfl) ?_
      refine wl_det rfl rfl rfl (op_assign rfl) ?_
      refine wl_det rfl rfl rfl (op_assign rfl) ?_
      refine wl_nil ?_
      refine st_tn ?_
      refine w_seq ?_
      refine w_region ?_
      refine wl_det rfl rfl rfl (op_move rfl) ?_
      refine wl_det rfl rfl rfl (op_move rfl) ?_
      refine wl_op [] rfl rfl rfl rfl (op_fn Try.func32 rfl rfl rfl (rcodes_any 47 (Sl.lab 37 rfl (by unfold maxLen; omega)) (Sl.app g _) (by omega))) ?_
      rintro _ _ ⟨a47, c47, rfl, rfl⟩
      refine wl_det rfl rfl rfl (op_move rfl) ?_
      refine wl_det rfl rfl rfl (op_extract rfl rfl) ?_
      refine wl_det rfl rfl rfl (op_extract rfl rfl) ?_
      refine wl_det rfl rfl rfl (op_assign rfl) ?_
      refine wl_det rfl rfl rfl (op_assign rfl) ?_
      refine wl_nil ?_
      refine st_tn ?_
      refine w_seq ?_
      refine w_region ?_
      refine wl_det rfl rfl rfl (op_move rfl) ?_
      refine wl_det rfl rfl rfl (op_move rfl) ?_
      refine wl_op [] rfl rfl rfl rfl (op_fn Try.func33 rfl rfl rfl (strings_any 53 (Sl.lab 37 rfl (by unfold maxLen; omega)) (Sl.app k _) (by omega))) ?_
      rintro _ _ ⟨a53, c53, rfl, rfl⟩
      refine wl_det rfl rfl rfl (op_move rfl) ?_
      refine wl_det rfl rfl rfl (op_extract rfl rfl) ?_
      refine wl_det rfl rfl rfl (op_extract rfl rfl) ?_
      refine wl_det rfl rfl rfl (op_assign rfl) ?_
      refine wl_det rfl rfl rfl (op_assign rfl) ?_
      refine wl_nil ?_
      refine st_tn ?_
      refine w_seq ?_
      refine w_region ?_
      refine wl_det rfl rfl rfl (op_move rfl) ?_
      refine wl_det rfl rfl rfl (op_move rfl) ?_
      refine wl_op [] rfl rfl rfl rfl (op_fn Try.func34 rfl rfl rfl (rstrings_any 59 (Sl.lab 37 rfl (by unfold maxLen; omega)) (Sl.app k _) (by omega))) ?_
      rintro _ _ ⟨a59, c59, rfl, rfl⟩
      refine wl_det rfl rfl rfl (op_move rfl) ?_
      refine wl_det rfl rfl rfl (op_extract rfl rfl) ?_
      refine wl_det rfl rfl rfl (op_extract rfl rfl) ?_
      refine wl_det rfl rfl rfl (op_assign rfl) ?_
      refine wl_det rfl rfl rfl (op_assign rfl) ?_
      refine wl_nil ?_
      refine st_tn ?_
      refine w_seq ?_
      refine w_seq ?_
      refine w_region ?_
      refine wl_det rfl rfl rfl (op_move rfl) ?_
      refine wl_det rfl rfl rfl (op_move rfl) ?_
      refine wl_det rfl rfl rfl (op_val (v' := .bool true) (by simp) (op_fn Try.func29 rfl rfl rfl (sameI_any (Sl.lab 41 rfl (by unfold maxLen; omega)) (Sl.lab 47 rfl (by unfold maxLen; omega))))) ?_
      refine wl_det rfl rfl rfl (op_not_t rfl) ?_
      refine wl_det rfl rfl rfl (op_move rfl) ?_
      refine wl_wanted_det rfl rfl rfl rfl rfl rfl rfl (op_move rfl) ?_
      refine wl_wanted_det rfl rfl rfl rfl rfl rfl rfl (op_move rfl) ?_
      refine wl_wanted_det rfl rfl rfl rfl rfl rfl rfl (op_val (v' := .bool false) (by simp) (op_neq rfl rfl)) ?_
      refine wl_det rfl rfl rfl (op_pick_f rfl rfl) ?_
      refine wl_det rfl rfl rfl (op_move rfl) ?_
      refine wl_wanted_det rfl rfl rfl rfl rfl rfl rfl (op_move rfl) ?_
      refine wl_wanted_det rfl rfl rfl rfl rfl rfl rfl (op_move rfl) ?_
      refine wl_wanted_det rfl rfl rfl rfl rfl rfl rfl (op_val (v' := .bool true) (by simp) (op_fn Try.func19 rfl rfl rfl (same_any (Sl.lab 53 rfl (by unfold maxLen; omega)) (Sl.lab 59 rfl (by unfold maxLen; omega))))) ?_
      refine wl_wanted_det rfl rfl rfl rfl rfl rfl rfl (op_not_t rfl) ?_
      refine wl_det rfl rfl rfl (op_pick_f rfl rfl) ?_
      refine wl_det rfl rfl rfl (op_move rfl) ?_
      refine wl_wanted_det rfl rfl rfl rfl rfl rfl rfl (op_move rfl) ?_
      refine wl_wanted_det rfl rfl rfl rfl rfl rfl rfl (op_move rfl) ?_
      refine wl_wanted_det rfl rfl rfl rfl rfl rfl rfl (op_val (v' := .bool false) (by simp) (op_neq rfl rfl)) ?_
      refine wl_det rfl rfl rfl (op_pick_f rfl rfl) ?_
      refine wl_nil ?_
      refine st_tn ?_
      refine w_cond_f (rfl) ?_
      refine w_skip ?_
      refine st_tn ?_
      refine w_seq ?_
      refine w_seq ?_
      refine w_region ?_
      refine wl_det rfl rfl rfl (op_move rfl) ?_
      refine wl_det rfl rfl rfl (op_neq rfl rfl) ?_
      refine wl_nil ?_
      refine st_tn ?_
      refine w_cond_d rfl (fun hc83 => ?_) (fun hc83 => ?_)
      · -- c83.t
        refine w_seq ?_
        refine w_region ?_
        refine wl_det rfl rfl rfl (op_assign rfl) ?_
        refine wl_nil ?_
        refine st_tn ?_
        refine w_ret ?_
        refine st_tr ?_
        refine st_ret (vs := [_]) [] Try.results7 ⟨rfl, trivial⟩ rfl ?_
        refine ⟨_, rfl, ?_⟩
        exact ⟨rfl, rfl⟩
      · -- c83.f
        obtain ⟨hk1, hk2⟩ := codes_back (d := dictOf l) (l := m) (Classical.not_not.1 hc83)
        refine w_skip ?_
        refine st_tn ?_
        refine w_seq ?_
        refine w_region ?_
        refine wl_det rfl rfl rfl (op_move rfl) ?_
        refine wl_det rfl rfl rfl (op_move rfl) ?_
        refine wl_op [] rfl rfl rfl rfl (op_fn Try.func33 rfl rfl rfl (strings_any 87 (Sl.lab 37 rfl (by unfold maxLen; omega)) (Sl.lab 41 rfl (by unfold maxLen; omega)) (by omega))) ?_
        rintro _ _ ⟨a87, c87, rfl, rfl⟩
        refine wl_det rfl rfl rfl (op_move rfl) ?_
        refine wl_det rfl rfl rfl (op_extract rfl rfl) ?_
        refine wl_det rfl rfl rfl (op_extract rfl rfl) ?_
        refine wl_det rfl rfl rfl (op_assign rfl) ?_
        refine wl_det rfl rfl rfl (op_assign rfl) ?_
        refine wl_nil ?_
        refine st_tn ?_
        refine w_seq ?_
        refine w_region ?_
        refine wl_det rfl rfl rfl (op_move rfl) ?_
        refine wl_det rfl rfl rfl (op_move rfl) ?_
        refine wl_det rfl rfl rfl (op_val (v' := .bool true) (by rw [hk2]; simp) (op_fn Try.func19 rfl rfl rfl (same_any (Sl.lab 87 rfl (by unfold maxLen; omega)) (Sl.app g _)))) ?_
        refine wl_det rfl rfl rfl (op_move rfl) ?_
        refine wl_wanted_det rfl rfl rfl rfl rfl rfl rfl (op_move rfl) ?_
        refine wl_wanted_det rfl rfl rfl rfl rfl rfl rfl (op_val (v' := .bool true) (by rw [hk1]; rfl) (op_eql rfl rfl)) ?_
        refine wl_det rfl rfl rfl (op_pick_t rfl rfl) ?_
        refine wl_det rfl rfl rfl (op_assign rfl) ?_
        refine wl_nil ?_
        refine st_tn ?_
        refine w_ret ?_
        refine st_ret (vs := [_]) [] Try.results7 ⟨rfl, trivial⟩ rfl ?_
        refine ⟨_, rfl, ?_⟩
        exact ⟨rfl, rfl⟩

set_option maxHeartbeats 4000000 in
set_option maxRecDepth 100000 in
theorem lawMerges_any {σ : World} {F : List Res} {a b : Option Addr} {c d : Nat} {l m : List Bs} (h : Sl σ F encT 1 (.slice a l.length c) l) (g : Sl σ F encT 1 (.slice b m.length d) m) :
    FnT Try.prog σ F 6 [.slice a l.length c, .slice b m.length d] [] (fun u ρ => u = .bool true ∧ ρ = []) := by
  refine fn_of 125 Try.func6 rfl Try.ntmps6 rfl ?_
  refine w_seq ?_
  refine w_region ?_
  refine wl_det rfl rfl rfl (op_assign rfl) ?_
  refine wl_nil ?_
  refine st_tn ?_
  refine w_seq ?_
  refine w_seq ?_
  refine w_cutL [(31, .bool (decide (¬ Few l ∨ ¬ Few m)))] [0, 1] [] rfl (fun K' hK => ?_) ?_
  · -- cut r1
    refine w_region ?_
    refine wl_det rfl rfl rfl (op_fn Try.func13 rfl rfl rfl (known_any)) ?_
    refine wl_det rfl rfl rfl (op_not_t rfl) ?_
    refine wl_det rfl rfl rfl (op_move rfl) ?_
    refine wl_wanted_det rfl rfl rfl rfl rfl rfl rfl (op_move rfl) ?_
    refine wl_wanted_det rfl rfl rfl rfl rfl rfl rfl (op_fn Try.func14 rfl rfl rfl (few_any (Sl.app h _))) ?_
    refine wl_wanted_det rfl rfl rfl rfl rfl rfl rfl (op_not_d rfl) ?_
    refine wl_det rfl rfl rfl (op_pick_f rfl rfl) ?_
    refine wl_det rfl rfl rfl (op_move rfl) ?_
    refine wl_gsplit (t := 27) rfl (fun hg27 => ?_) (fun hg27 => ?_)
    · -- 27 is True
      refine wl_unwanted rfl rfl rfl rfl rfl rfl rfl rfl ?_
      refine wl_unwanted rfl rfl rfl rfl rfl rfl rfl rfl ?_
      refine wl_unwanted rfl rfl rfl rfl rfl rfl rfl rfl ?_
      refine wl_det rfl rfl rfl (op_pick_t rfl rfl) ?_
      refine wl_nil ?_
      refine st_tn ?_
      exact cut_done1 [] hK rfl (by first | (simp [*]; done) | (simp [*]; omega)) (by rfl) rfl rfl
    · -- 27 is False
      refine wl_wanted_det rfl rfl rfl rfl rfl rfl rfl (op_move rfl) ?_
      refine wl_wanted_det rfl rfl rfl rfl rfl rfl rfl (op_fn Try.func14 rfl rfl rfl (few_any (Sl.app g _))) ?_
      refine wl_wanted_det rfl rfl rfl rfl rfl rfl rfl (op_not_d rfl) ?_
      refine wl_det rfl rfl rfl (op_pick_f rfl rfl) ?_
      refine wl_nil ?_
      refine st_tn ?_
      exact cut_done1 [] hK rfl (by first | (simp [*]; done) | (simp [*]; omega)) (by rfl) rfl rfl
  · -- behind r1
    show W _ _ _ _ _ [(31, _), (0, _), (1, _)] [] _
    refine w_cond_d rfl (fun hc31 => ?_) (fun hc31 => ?_)
    · -- c31.t
      refine w_seq ?_
      refine w_region ?_
      refine wl_det rfl rfl rfl (op_fn Try.func13 rfl rfl rfl (known_any)) ?_
      refine wl_det rfl rfl rfl (op_assign rfl) ?_
      refine wl_nil ?_
      refine st_tn ?_
      refine w_ret ?_
      refine st_tr ?_
      refine st_ret (vs := [_]) [] Try.results6 ⟨rfl, trivial⟩ rfl ?_
      refine ⟨_, rfl, ?_⟩
      exact ⟨rfl, rfl⟩
    · -- c31.f
      obtain ⟨hf1, hf2⟩ : Few l := Classical.byContradiction fun h => hc31 (.inl h)
      obtain ⟨hm1, hm2⟩ : Few m := Classical.byContradiction fun h => hc31 (.inr h)
      have ia := dict_inc l
      have ib := dict_inc m
      have sa := dict_short l
      have sb := dict_short m
      have la := dict_len l
      have lb := dict_len m
      have lab1 := build_length (dictOf m) (dictOf l)
      obtain ⟨p1, p2, p3, p4⟩ := mrg_spec ia ib sa sb (by omega)
      obtain ⟨q1, q2, q3, q4⟩ := mrg_spec ib ia sb sa (by omega)
      obtain ⟨o1, o2, o3, o4⟩ := mrg_spec ia ia sa sa (by omega)
      rw [build_comm ib ia] at q2 q3 q4
      rw [build_own ia] at o2 o3 o4
      refine w_skip ?_
      refine st_tn ?_
      refine w_seq ?_
      refine w_region ?_
      refine wl_det rfl rfl rfl (op_move rfl) ?_
      refine wl_op [] rfl rfl rfl rfl (op_fn Try.func21 rfl rfl rfl (dictOf_any 34 (by first | exact Sl.app (by assumption) _ | exact Sl.app (Sl.app (by assumption) _) _) (by omega))) ?_
      rintro _ _ ⟨a34, c34, rfl, rfl⟩
      refine wl_det rfl rfl rfl (op_move rfl) ?_
      refine wl_op [] rfl rfl rfl rfl (op_fn Try.func21 rfl rfl rfl (dictOf_any 36 (by first | exact Sl.app (by assumption) _ | exact Sl.app (Sl.app (by assumption) _) _) (by omega))) ?_
      rintro _ _ ⟨a36, c36, rfl, rfl⟩
      refine wl_det rfl rfl rfl (op_assign rfl) ?_
      refine wl_det rfl rfl rfl (op_assign rfl) ?_
      refine wl_nil ?_
      refine st_tn ?_
      refine w_seq ?_
      refine w_region ?_
      refine wl_det rfl rfl rfl (op_move rfl) ?_
      refine wl_det rfl rfl rfl (op_move rfl) ?_
      refine wl_op [] rfl rfl rfl rfl (op_fn Try.func20 rfl rfl rfl (merge_any 40 140 240 (Sl.lab 34 rfl (by unfold maxLen; omega)) (Sl.lab 36 rfl (by unfold maxLen; omega)) (by omega))) ?_
      rintro _ _ ⟨a40, c40, p40, q40, s40, t40, rfl, rfl⟩
      refine wl_det rfl rfl rfl (op_move rfl) ?_
      refine wl_det rfl rfl rfl (op_extract rfl rfl) ?_
      refine wl_det rfl rfl rfl (op_extract rfl rfl) ?_
      refine wl_det rfl rfl rfl (op_extract rfl rfl) ?_
      refine wl_det rfl rfl rfl (op_extract rfl rfl) ?_
      refine wl_det rfl rfl rfl (op_assign rfl) ?_
      refine wl_det rfl rfl rfl (op_assign rfl) ?_
      refine wl_det rfl rfl rfl (op_assign rfl) ?_
      refine wl_det rfl rfl rfl (op_assign rfl) ?_
      refine wl_nil ?_
      refine st_tn ?_
      refine w_seq ?_
      refine w_region ?_
      refine wl_det rfl rfl rfl (op_move rfl) ?_
      refine wl_det rfl rfl rfl (op_move rfl) ?_
      refine wl_op [] rfl rfl rfl rfl (op_fn Try.func20 rfl rfl rfl (merge_any 48 148 248 (Sl.lab 36 rfl (by unfold maxLen; omega)) (Sl.lab 34 rfl (by unfold maxLen; omega)) (by omega))) ?_
      rintro _ _ ⟨a48, c48, p48, q48, s48, t48, rfl, rfl⟩
      refine wl_det rfl rfl rfl (op_move rfl) ?_
      refine wl_det rfl rfl rfl (op_extract rfl rfl) ?_
      refine wl_det rfl rfl rfl (op_extract rfl rfl) ?_
      refine wl_det rfl rfl rfl (op_extract rfl rfl) ?_
      refine wl_det rfl rfl rfl (op_extract rfl rfl) ?_
      refine wl_det rfl rfl rfl (op_assign rfl) ?_
      refine wl_det rfl rfl rfl (op_assign rfl) ?_
      refine wl_det rfl rfl rfl (op_assign rfl) ?_
      refine wl_det rfl rfl rfl (op_assign rfl) ?_
      refine wl_nil ?_
      refine st_tn ?_
      refine w_seq ?_
      refine w_region ?_
      refine wl_det rfl rfl rfl (op_move rfl) ?_
      refine wl_det rfl rfl rfl (op_move rfl) ?_
      refine wl_op [] rfl rfl rfl rfl (op_fn Try.func20 rfl rfl rfl (merge_any 56 156 256 (Sl.lab 34 rfl (by unfold maxLen; omega)) (Sl.lab 34 rfl (by unfold maxLen; omega)) (by omega))) ?_
      rintro _ _ ⟨a56, c56, p56, q56, s56, t56, rfl, rfl⟩
      refine wl_det rfl rfl rfl (op_move rfl) ?_
      refine wl_det rfl rfl rfl (op_extract rfl rfl) ?_
      refine wl_det rfl rfl rfl (op_extract rfl rfl) ?_
      refine wl_det rfl rfl rfl (op_extract rfl rfl) ?_
      refine wl_det rfl rfl rfl (op_extract rfl rfl) ?_
      refine wl_det rfl rfl rfl (op_assign rfl) ?_
      refine wl_det rfl rfl rfl (op_assign rfl) ?_
      refine wl_det rfl rfl rfl (op_assign rfl) ?_
      refine wl_det rfl rfl rfl (op_assign rfl) ?_
      refine wl_nil ?_
      refine st_tn ?_
      refine w_seq ?_
      rw [p1, p2, p3, p4, q1, q2, q3, q4, o1, o2, o3]
      refine w_region ?_
      refine wl_det rfl rfl rfl (op_move rfl) ?_
      refine wl_det rfl rfl rfl (op_move rfl) ?_
      refine wl_op [] rfl rfl rfl rfl (op_fn Try.func28 rfl rfl rfl (rmerge_any 63 (Sl.lab 34 rfl (by unfold maxLen fromL at *; simp; omega)) (Sl.lab 36 rfl (by unfold maxLen fromL at *; simp; omega)) (by omega) (by omega))) ?_
      rintro _ _ ⟨a63, c63, rfl, rfl⟩
      refine wl_det rfl rfl rfl (op_assign rfl) ?_
      refine wl_nil ?_
      refine st_tn ?_
      refine w_seq ?_
      refine w_region ?_
      refine wl_det rfl rfl rfl (op_move rfl) ?_
      refine wl_det rfl rfl rfl (op_move rfl) ?_
      refine wl_det rfl rfl rfl (op_val (v' := .bool true) (by simp) (op_fn Try.func19 rfl rfl rfl (same_any (Sl.lab 40 rfl (by unfold maxLen fromL at *; simp; omega)) (Sl.lab 63 rfl (by unfold maxLen fromL at *; simp; omega))))) ?_
      refine wl_det rfl rfl rfl (op_move rfl) ?_
      refine wl_wanted_det rfl rfl rfl rfl rfl rfl rfl (op_move rfl) ?_
      refine wl_wanted_det rfl rfl rfl rfl rfl rfl rfl (op_move rfl) ?_
      refine wl_wanted_det rfl rfl rfl rfl rfl rfl rfl (op_move rfl) ?_
      refine wl_wanted [] rfl rfl rfl rfl rfl rfl rfl rfl (op_fn Try.func30 rfl rfl rfl (from_any 71 (Sl.lab 34 rfl (by unfold maxLen fromL at *; simp; omega)) (Sl.lab 63 rfl (by unfold maxLen fromL at *; simp; omega)) (by omega))) ?_
      rintro _ _ ⟨a71, c71, rfl, rfl⟩
      refine wl_wanted_det rfl rfl rfl rfl rfl rfl rfl (op_val (v' := .bool true) (by simp) (op_fn Try.func29 rfl rfl rfl (sameI_any (Sl.lab 140 rfl (by unfold maxLen fromL at *; simp; omega)) (Sl.lab 71 rfl (by unfold maxLen fromL at *; simp; omega))))) ?_
      refine wl_det rfl rfl rfl (op_pick_t rfl rfl) ?_
      refine wl_det rfl rfl rfl (op_move rfl) ?_
      refine wl_wanted_det rfl rfl rfl rfl rfl rfl rfl (op_move rfl) ?_
      refine wl_wanted_det rfl rfl rfl rfl rfl rfl rfl (op_move rfl) ?_
      refine wl_wanted_det rfl rfl rfl rfl rfl rfl rfl (op_move rfl) ?_
      refine wl_wanted [] rfl rfl rfl rfl rfl rfl rfl rfl (op_fn Try.func30 rfl rfl rfl (from_any 78 (Sl.lab 36 rfl (by unfold maxLen fromL at *; simp; omega)) (Sl.lab 63 rfl (by unfold maxLen fromL at *; simp; omega)) (by omega))) ?_
      rintro _ _ ⟨a78, c78, rfl, rfl⟩
      refine wl_wanted_det rfl rfl rfl rfl rfl rfl rfl (op_val (v' := .bool true) (by simp) (op_fn Try.func29 rfl rfl rfl (sameI_any (Sl.lab 240 rfl (by unfold maxLen fromL at *; simp; omega)) (Sl.lab 78 rfl (by unfold maxLen fromL at *; simp; omega))))) ?_
      refine wl_det rfl rfl rfl (op_pick_t rfl rfl) ?_
      refine wl_det rfl rfl rfl (op_move rfl) ?_
      refine wl_wanted_det rfl rfl rfl rfl rfl rfl rfl (op_move rfl) ?_
      refine wl_wanted_det rfl rfl rfl rfl rfl rfl rfl (op_val (v' := .bool true) (by rfl) (op_eql rfl rfl)) ?_
      refine wl_det rfl rfl rfl (op_pick_t rfl rfl) ?_
      refine wl_det rfl rfl rfl (op_move rfl) ?_
      refine wl_wanted_det rfl rfl rfl rfl rfl rfl rfl (op_move rfl) ?_
      refine wl_wanted_det rfl rfl rfl rfl rfl rfl rfl (op_move rfl) ?_
      refine wl_wanted_det rfl rfl rfl rfl rfl rfl rfl (op_val (v' := .bool true) (by simp) (op_fn Try.func19 rfl rfl rfl (same_any (Sl.lab 48 rfl (by unfold maxLen fromL at *; simp; omega)) (Sl.lab 63 rfl (by unfold maxLen fromL at *; simp; omega))))) ?_
      refine wl_det rfl rfl rfl (op_pick_t rfl rfl) ?_
      refine wl_det rfl rfl rfl (op_move rfl) ?_
      refine wl_wanted_det rfl rfl rfl rfl rfl rfl rfl (op_move rfl) ?_
      refine wl_wanted_det rfl rfl rfl rfl rfl rfl rfl (op_move rfl) ?_
      refine wl_wanted_det rfl rfl rfl rfl rfl rfl rfl (op_val (v' := .bool true) (by simp) (op_fn Try.func29 rfl rfl rfl (sameI_any (Sl.lab 148 rfl (by unfold maxLen fromL at *; simp; omega)) (Sl.lab 240 rfl (by unfold maxLen fromL at *; simp; omega))))) ?_
      refine wl_det rfl rfl rfl (op_pick_t rfl rfl) ?_
      refine wl_det rfl rfl rfl (op_move rfl) ?_
      refine wl_wanted_det rfl rfl rfl rfl rfl rfl rfl (op_move rfl) ?_
      refine wl_wanted_det rfl rfl rfl rfl rfl rfl rfl (op_move rfl) ?_
      refine wl_wanted_det rfl rfl rfl rfl rfl rfl rfl (op_val (v' := .bool true) (by simp) (op_fn Try.func29 rfl rfl rfl (sameI_any (Sl.lab 248 rfl (by unfold maxLen fromL at *; simp; omega)) (Sl.lab 140 rfl (by unfold maxLen fromL at *; simp; omega))))) ?_
      refine wl_det rfl rfl rfl (op_pick_t rfl rfl) ?_
      refine wl_det rfl rfl rfl (op_move rfl) ?_
      refine wl_wanted_det rfl rfl rfl rfl rfl rfl rfl (op_move rfl) ?_
      refine wl_wanted_det rfl rfl rfl rfl rfl rfl rfl (op_val (v' := .bool true) (by rfl) (op_eql rfl rfl)) ?_
      refine wl_det rfl rfl rfl (op_pick_t rfl rfl) ?_
      refine wl_det rfl rfl rfl (op_move rfl) ?_
      refine wl_wanted_det rfl rfl rfl rfl rfl rfl rfl (op_move rfl) ?_
      refine wl_wanted_det rfl rfl rfl rfl rfl rfl rfl (op_move rfl) ?_
      refine wl_wanted_det rfl rfl rfl rfl rfl rfl rfl (op_val (v' := .bool true) (by simp) (op_fn Try.func19 rfl rfl rfl (same_any (Sl.lab 56 rfl (by unfold maxLen fromL at *; simp; omega)) (Sl.lab 34 rfl (by unfold maxLen fromL at *; simp; omega))))) ?_
      refine wl_det rfl rfl rfl (op_pick_t rfl rfl) ?_
      refine wl_det rfl rfl rfl (op_move rfl) ?_
      refine wl_wanted_det rfl rfl rfl rfl rfl rfl rfl (op_move rfl) ?_
      refine wl_wanted_det rfl rfl rfl rfl rfl rfl rfl (op_move rfl) ?_
      refine wl_wanted_det rfl rfl rfl rfl rfl rfl rfl (op_val (v' := .bool true) (by simp) (op_fn Try.func29 rfl rfl rfl (sameI_any (Sl.lab 156 rfl (by unfold maxLen fromL at *; simp; omega)) (Sl.lab 256 rfl (by unfold maxLen fromL at *; simp; omega))))) ?_
      refine wl_det rfl rfl rfl (op_pick_t rfl rfl) ?_
      refine wl_det rfl rfl rfl (op_move rfl) ?_
      refine wl_wanted_det rfl rfl rfl rfl rfl rfl rfl (op_move rfl) ?_
      refine wl_wanted_det rfl rfl rfl rfl rfl rfl rfl (op_move rfl) ?_
      refine wl_wanted_det rfl rfl rfl rfl rfl rfl rfl (op_move rfl) ?_
      refine wl_wanted [] rfl rfl rfl rfl rfl rfl rfl rfl (op_fn Try.func30 rfl rfl rfl (from_any 118 (Sl.lab 34 rfl (by unfold maxLen fromL at *; simp; omega)) (Sl.lab 34 rfl (by unfold maxLen fromL at *; simp; omega)) (by omega))) ?_
      rintro _ _ ⟨a118, c118, rfl, rfl⟩
      refine wl_wanted_det rfl rfl rfl rfl rfl rfl rfl (op_val (v' := .bool true) (by simp) (op_fn Try.func29 rfl rfl rfl (sameI_any (Sl.lab 156 rfl (by unfold maxLen fromL at *; simp; omega)) (Sl.lab 118 rfl (by unfold maxLen fromL at *; simp; omega))))) ?_
      refine wl_det rfl rfl rfl (op_pick_t rfl rfl) ?_
      refine wl_det rfl rfl rfl (op_move rfl) ?_
      refine wl_wanted_det rfl rfl rfl rfl rfl rfl rfl (op_move rfl) ?_
      refine wl_wanted_det rfl rfl rfl rfl rfl rfl rfl (op_val (v' := .bool true) (by rfl) (op_eql rfl rfl)) ?_
      refine wl_det rfl rfl rfl (op_pick_t rfl rfl) ?_
      refine wl_det rfl rfl rfl (op_assign rfl) ?_
      refine wl_nil ?_
      refine st_tn ?_
      refine w_ret ?_
      refine st_ret (vs := [_]) [] Try.results6 ⟨rfl, trivial⟩ rfl ?_
      refine ⟨_, rfl, ?_⟩
      exact ⟨rfl, rfl⟩

end Go.Proofs.Ytbpihhaiechnbaa
