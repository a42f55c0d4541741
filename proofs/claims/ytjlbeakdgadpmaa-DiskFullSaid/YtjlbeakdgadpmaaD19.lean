/- Laws Survives, Syncs (layer 26). Conditions: none. -/
import Derived.Test.YtjlbeakdgadpmaaD15
namespace Go.Proofs.Ytjlbeakdgadpmaa
open Go Go.SL Go.RowKit Go.DskM
set_option linter.unusedVariables false
set_option linter.unusedSimpArgs false
theorem tA43s : aggB Try.prog 43 6 = true := by kernel_rfl
theorem tA51s : aggB Try.prog 51 4 = true := by kernel_rfl
theorem tB36s : placesB Try.prog 36 = some ([(0, 1), (1, 1), (2, 1), (3, 1), (4, 1)], [Value.int .i64 0, Value.slice none 0 0, Value.bool false, Value.bool false, Value.int .i64 0]) := by kernel_rfl
theorem tF36_1s : fieldB Try.prog 36 1 1 = true := by kernel_rfl
theorem tF51_0s : fieldB Try.prog 51 0 0 = true := by kernel_rfl
theorem tF51_1s : fieldB Try.prog 51 1 1 = true := by kernel_rfl
theorem tF51_2s : fieldB Try.prog 51 2 2 = true := by kernel_rfl
theorem tF51_3s : fieldB Try.prog 51 3 3 = true := by kernel_rfl
theorem tL48_1s : zerosB Try.prog 48 9 1 1 = some [Value.string .empty] := by kernel_rfl
theorem tMixs : Try.prog.follows .mixedOrders = true := by kernel_rfl
theorem tN51s : (Try.prog.info? 51).bind (·.zero) = some (Value.agg #[Value.string .empty, Value.string .empty, Value.int .i64 0, Value.bool false]) := by kernel_rfl
theorem tO3s : oneB Try.prog 3 = true := by kernel_rfl
theorem tO34s : oneB Try.prog 34 = true := by kernel_rfl
theorem tO4s : oneB Try.prog 4 = true := by kernel_rfl
theorem tO9s : oneB Try.prog 9 = true := by kernel_rfl
theorem tP48s : appB Try.prog 48 9 1 16 = true := by kernel_rfl
theorem tS34s : sliceB Try.prog 34 51 4 = true := by kernel_rfl
theorem tS39s : sliceB Try.prog 39 43 6 = true := by kernel_rfl
theorem tS41s : sliceB Try.prog 41 3 1 = true := by kernel_rfl
theorem tS48s : sliceB Try.prog 48 9 1 = true := by kernel_rfl
theorem tZ51s : (Try.prog.info? 51).map (·.size) = some 4 := by kernel_rfl

/-- How many files are durable. -/
def cntD (fs : Files) : Nat := (fs.filter fun p => p.2.dur).length
theorem cntD_cons (p : Bs × Fl) (l : Files) : cntD (p :: l) = (if p.2.dur = true then 1 else 0) + cntD l := by
  unfold cntD; rw [List.filter_cons]; split <;> simp <;> omega
theorem start_cnt : ∀ (fs : Files) (sc : List Int), (startF fs sc).length = cntD fs
  | [], _ => rfl
  | p :: l, sc => by
    rw [cntD_cons]
    unfold startF
    split
    · split
      · rw [List.length_cons, start_cnt l]; omega
      · rw [List.length_cons, start_cnt l]; omega
    · rw [start_cnt l]; omega
theorem start_at : ∀ (fs : Files) (sc : List Int) (i : Nat) (p : Bs × Fl), fs[i]? = some p → p.2.dur = true → ∃ q, (startF fs sc)[cntD (fs.take i)]? = some (p.1, q) ∧ (q = p.2 ∨ ∃ c, q = cut p.2 c)
  | [], _, i, p, h, _ => by simp at h
  | x :: l, sc, 0, p, h, hd => by
    simp at h; subst h
    unfold startF
    rw [if_pos hd]
    split
    · exact ⟨x.2, rfl, .inl rfl⟩
    · exact ⟨_, rfl, .inr ⟨_, rfl⟩⟩
  | x :: l, sc, i + 1, p, h, hd => by
    have h' : l[i]? = some p := by simpa using h
    rw [List.take_succ_cons, cntD_cons]
    unfold startF
    by_cases hx : x.2.dur = true
    · rw [if_pos hx, if_pos hx]
      split
      · obtain ⟨q, h1, h2⟩ := start_at l sc i p h' hd
        exact ⟨q, by rw [Nat.add_comm, List.getElem?_cons_succ]; exact h1, h2⟩
      · obtain ⟨q, h1, h2⟩ := start_at l sc.tail i p h' hd
        exact ⟨q, by rw [Nat.add_comm, List.getElem?_cons_succ]; exact h1, h2⟩
    · rw [if_neg hx, if_neg hx]
      obtain ⟨q, h1, h2⟩ := start_at l sc i p h' hd
      exact ⟨q, by rw [Nat.zero_add]; exact h1, h2⟩
theorem cut_beg {f q : Fl} (hs : f.syn ≤ f.data.length) (h : q = f ∨ ∃ c, q = cut f c) : f.syn ≤ q.data.length ∧ q.data.length ≤ f.data.length ∧ f.data.take q.data.length = q.data := by
  rcases h with rfl | ⟨c, rfl⟩
  · exact ⟨hs, Nat.le_refl _, List.take_of_length_le (Nat.le_refl _)⟩
  · have := cut_len f c hs
    refine ⟨by omega, by omega, ?_⟩
    unfold cut; simp only [List.length_take]
    rw [Nat.min_comm, take_min]
theorem cntD_snoc {fs : Files} {i : Nat} {p : Bs × Fl} (h : fs[i]? = some p) : cntD (fs.take (i + 1)) = cntD (fs.take i) + (if p.2.dur = true then 1 else 0) := by
  rw [take_snoc h]; unfold cntD; rw [List.filter_append, List.length_append, List.filter_cons]; split <;> simp
-- CALL sleuth/sleuthlaw26.capacity capac_any n (by assumption)
set_option maxHeartbeats 8000000 in
set_option maxRecDepth 100000 in
theorem lawSurvives_any {σ : World} {F : List Res} {a : Option Addr} {c : Nat} {L : List OprA} {a2 : Option Addr} {c2 : Nat} {sc : List Int} (n : Int) (hn : 0 ≤ n ∧ n ≤ 255) (hL : OkL σ F a c L) (hsc : Sl σ F SL.encZ 1 (.slice a2 sc.length c2) sc) : FnT Try.prog σ F 6 [.int .u8 n, .slice a L.length c, .slice a2 sc.length c2] [] (fun u ρ => u = .bool true ∧ ρ = []) := by
  refine fn_of 138 Try.func6 rfl Try.ntmps6 rfl ?_
  have hsl := hL.sl
  have hle := hsl.i64
  refine w_seq ?_
  refine w_region ?_
  refine wl_det rfl rfl rfl (op_assign rfl) ?_
  refine wl_nil ?_
  refine st_tn ?_
  refine w_seq ?_
  refine w_region ?_
  refine wl_det rfl rfl rfl (op_move rfl) ?_
  refine wl_det rfl rfl rfl (op_fn Try.func13 rfl rfl rfl (capac_any n (by assumption))) ?_
  refine wl_op [] rfl rfl rfl rfl (op_fn Try.func12 rfl rfl rfl (new_ok (20 + n) 601 602 (by omega))) ?_
  rintro _ _ ⟨b9, m9, rfl, rfl⟩
  refine wl_det rfl rfl rfl (op_move rfl) ?_
  refine wl_det rfl rfl rfl (op_extract rfl rfl) ?_
  refine wl_det rfl rfl rfl (op_extract rfl rfl) ?_
  refine wl_det rfl rfl rfl (op_assign rfl) ?_
  refine wl_det rfl rfl rfl (op_assign rfl) ?_
  refine wl_nil ?_
  refine st_tn ?_
  refine w_seq ?_
  refine w_seq ?_
  refine w_region ?_
  refine wl_det rfl rfl rfl (op_fn Try.func14 rfl rfl rfl (known_any)) ?_
  refine wl_det rfl rfl rfl (op_not_t rfl) ?_
  refine wl_det rfl rfl rfl (op_move rfl) ?_
  refine wl_wanted_det rfl rfl rfl rfl rfl rfl rfl (op_move rfl) ?_
  refine wl_wanted_det rfl rfl rfl rfl rfl rfl rfl (op_val (v' := .bool false) (by rfl) (op_neq rfl rfl)) ?_
  refine wl_det rfl rfl rfl (op_pick_f rfl rfl) ?_
  refine wl_det rfl rfl rfl (op_move rfl) ?_
  refine wl_wanted_det rfl rfl rfl rfl rfl rfl rfl (op_move rfl) ?_
  refine wl_wanted_det rfl rfl rfl rfl rfl rfl rfl (op_lenT rfl tS41s (Sl.ent (by first | exact Sl.app (by assumption) _ | exact Sl.app (Sl.app (by assumption) _) _))) ?_
  refine wl_wanted_det rfl rfl rfl rfl rfl rfl rfl (op_gtr rfl rfl) ?_
  refine wl_det rfl rfl rfl (op_pick_f rfl rfl) ?_
  refine wl_nil ?_
  refine st_tn ?_
  refine w_cond_d rfl (fun hc33 => ?_) (fun hc33 => ?_)
  · -- c33.t
    refine w_seq ?_
    refine w_region ?_
    refine wl_det rfl rfl rfl (op_fn Try.func14 rfl rfl rfl (known_any)) ?_
    refine wl_det rfl rfl rfl (op_move rfl) ?_
    refine wl_wanted_det rfl rfl rfl rfl rfl rfl rfl (op_move rfl) ?_
    refine wl_wanted_det rfl rfl rfl rfl rfl rfl rfl (op_val (v' := .bool true) (by rfl) (op_eql rfl rfl)) ?_
    refine wl_det rfl rfl rfl (op_pick_t rfl rfl) ?_
    refine wl_det rfl rfl rfl (op_assign rfl) ?_
    refine wl_nil ?_
    refine st_tn ?_
    refine w_ret ?_
    refine st_tr ?_
    refine st_ret (vs := [_]) [] Try.results6 ⟨rfl, trivial⟩ rfl ?_
    refine ⟨_, rfl, ?_⟩
    exact ⟨rfl, rfl⟩
  · -- c33.f
    refine w_skip ?_
    refine st_tn ?_
    refine w_seq ?_
    refine w_emp 604 (r := slW 51 encM 4 (.slice none 0 0) (newS (20 + n)).fs) (slO_nil 51 4) ?_
    refine w_region ?_
    refine wl_det rfl rfl rfl (op_move rfl) ?_
    refine wl_det rfl rfl rfl (op_fn Try.func13 rfl rfl rfl (capac_any n (by assumption))) ?_
    refine wl_det rfl rfl rfl (op_build tB36s rfl rfl) ?_
    refine wl_op [] rfl rfl rfl rfl (op_box (T := 36) (l := 603) rfl) ?_
    rintro _ _ ⟨b24, rfl, rfl⟩
    refine wl_det rfl rfl rfl (op_assign rfl) ?_
    refine wl_nil ?_
    refine st_tn ?_
    refine w_seq ?_
    refine w_seq ?_
    refine w_region ?_
    refine wl_det rfl rfl rfl (op_assign rfl) ?_
    refine wl_nil ?_
    refine st_tn ?_
    refine w_block ?_
    refine w_loopQ (X := Nat × DskM.St × DskM.Files × Option Addr × Nat × Nat) (fun z => z.1 ≤ L.length ∧ DskM.Good z.2.1 ∧ z.2.2.1.Perm z.2.1.fs) (fun z => [(10, .int .i64 (z.1))]) (fun z => [(601, cel b9 (cellD (z.2.1) m9) 65), (602, mp KL encF m9 (z.2.2.1)), (603, cel b24 (cellS (z.2.1) (z.2.2.2.1) (z.2.2.2.2.1) (z.2.2.2.2.2)) 36), (604, slW 51 encM 4 (.slice (z.2.2.2.1) (z.2.2.2.2.1) (z.2.2.2.2.2)) (z.2.1).fs)]) (fun z => L.length - z.1) ((0, newS (20 + n), [], none, 0, 0)) [(1, _), (2, _), (7, _), (9, _)] [] [601, 602, 603, 604] rfl (rfl) (.cons rfl (.nil _)) (.cons rfl (.cons rfl (.cons rfl (.cons rfl (.nil _))))) (by
        try dsimp only
        exact ⟨Nat.zero_le _, good_new (by omega), List.Perm.refl _⟩) ?_
    rintro ⟨i, S, l_S, a_S, m_S, c_S⟩ ⟨hi, hg, hp⟩
    refine w_norm2 (by dsimp only [List.cons_append, List.nil_append]) (by dsimp only [List.cons_append, List.nil_append]) ?_
    try dsimp only at hi hg hp ⊢
    refine w_seq ?_
    refine w_seq ?_
    refine w_region ?_
    refine wl_det rfl rfl rfl (op_move rfl) ?_
    refine wl_det rfl rfl rfl (op_move rfl) ?_
    refine wl_det rfl rfl rfl (op_lenT rfl tS39s (Sl.ent (Sl.app hsl _))) ?_
    refine wl_det rfl rfl rfl (op_lss rfl rfl) ?_
    refine wl_det rfl rfl rfl (op_move rfl) ?_
    refine wl_gsplit (t := 47) rfl (fun hg47 => ?_) (fun hg47 => ?_)
    · -- 47 is True
      obtain ⟨y, hy⟩ := getE (l := L) (i := i) (by omega)
      have hym := List.mem_of_getElem? hy
      refine wl_wanted_det rfl rfl rfl rfl rfl rfl rfl (op_move rfl) ?_
      refine wl_wanted_det rfl rfl rfl rfl rfl rfl rfl (op_lss rfl rfl) ?_
      refine wl_det rfl rfl rfl (op_pick_t rfl rfl) ?_
      refine wl_nil ?_
      refine st_tn ?_
      refine w_cond_d rfl (fun hc50 => ?_) (fun hc50 => ?_)
      · -- c50.t
        refine w_skip ?_
        refine st_tn ?_
        refine w_seq ?_
        refine w_block ?_
        refine w_region ?_
        refine wl_det rfl rfl rfl (op_move rfl) ?_
        refine wl_det rfl rfl rfl (op_move rfl) ?_
        refine wl_det rfl rfl rfl (op_move rfl) ?_
        refine wl_det rfl rfl rfl (op_move rfl) ?_
        refine wl_det rfl rfl rfl (op_idx rfl rfl tS39s (Sl.ent (Sl.app hsl _)) (by omega)) ?_
        refine wl_det rfl rfl rfl (op_ldxA rfl tA43s (Sl.app hsl _) (by assumption) (by rfl) (by rfl)) ?_
        refine wl_op [601, 602, 603, 604] rfl rfl rfl rfl (op_fn Try.func24 rfl rfl rfl (perform_any (x := y.x) hg hp (hL.ok y hym) (Sl.app (hL.sc y hym) _))) ?_
        rintro _ _ ⟨rfl, l41, a41, m41, c41, hp41, rfl⟩
        refine wl_nil ?_
        refine st_bn ?_
        refine st_tn ?_
        refine w_region ?_
        refine wl_det rfl rfl rfl (op_move rfl) ?_
        refine wl_det rfl rfl rfl (op_add' rfl rfl (by omega)) ?_
        refine wl_det rfl rfl rfl (op_assign rfl) ?_
        refine wl_nil ?_
        refine st_roundQ (x := (i, S, l_S, a_S, m_S, c_S)) ((i + 1, perfS S y.x, l41, a41, m41, c41)) [601, 602, 603, 604] rfl (rfl) (.cons rfl (.nil _)) (.cons rfl (.cons rfl (.cons rfl (.cons rfl (.nil _))))) (by
            try dsimp only
            exact ⟨by omega, Good.perf hg (hL.ok y hym), hp41⟩) (by
            try dsimp only
            omega) 
      · -- c50.f
        refine w_exit ?_
        refine st_te ?_
        refine st_te ?_
        refine st_be ?_
        refine st_tn ?_
        refine w_seq ?_
        have hgc := hg.cra
        have hcnt := hg.cnt
        refine w_region ?_
        refine wl_det rfl rfl rfl (op_move rfl) ?_
        refine wl_op [601] rfl rfl rfl rfl (op_fn Try.func25 rfl rfl rfl (crash_any S)) ?_
        rintro _ _ ⟨rfl, rfl⟩
        refine wl_nil ?_
        refine st_tn ?_
        refine w_seq ?_
        refine w_region ?_
        refine wl_det rfl rfl rfl (op_move rfl) ?_
        refine wl_det rfl rfl rfl (op_move rfl) ?_
        refine wl_op [601, 602] rfl rfl rfl rfl (op_fn Try.func26 rfl rfl rfl (sta_to (s := craO S) (sc := sc) rfl hgc hp (Sl.app hsc _))) ?_
        rintro _ _ ⟨l64, hp64, rfl, rfl⟩
        refine wl_nil ?_
        refine st_tn ?_
        refine w_seq ?_
        have hgU := hgc.sta sc
        obtain ⟨U, hU⟩ : ∃ U, staO (craO S) sc = U := ⟨_, rfl⟩
        rw [hU] at hgU hp64 ⊢
        have hUd : U.down = false := by rw [← hU]; exact rfl
        have hUf : U.fs = startF S.fs sc := by rw [← hU]; rfl
        have hlo : listO U = keysOf (startF S.fs sc) := by unfold listO; rw [if_neg (by simp [hUd]), hUf]
        have hcd : cntD S.fs ≤ S.fs.length := List.length_filter_le _ _
        have hll : (listO U).length = cntD S.fs := by rw [hlo, keysOf, List.length_map, start_cnt]
        refine w_region ?_
        refine wl_det rfl rfl rfl (op_move rfl) ?_
        refine wl_op [] rfl rfl rfl rfl (op_fn Try.func27 rfl rfl rfl (list_any (s := U) (m := m9) 66 hgU hp64 (celD 601 rfl) (Mr.lab 602 rfl))) ?_
        rintro _ _ ⟨a66, c66, rfl, rfl⟩
        refine wl_det rfl rfl rfl (op_assign rfl) ?_
        refine wl_nil ?_
        refine st_tn ?_
        refine w_seq ?_
        refine w_region ?_
        refine wl_det rfl rfl rfl (op_assign rfl) ?_
        refine wl_nil ?_
        refine st_tn ?_
        refine w_seq ?_
        refine w_seq ?_
        refine w_region ?_
        refine wl_det rfl rfl rfl (op_assign rfl) ?_
        refine wl_nil ?_
        refine st_tn ?_
        refine w_block ?_
        refine w_loopQ (X := Nat × Nat) (fun z => z.2 ≤ S.fs.length ∧ z.1 = cntD (S.fs.take z.2)) (fun z => [(12, .int .i64 (z.1)), (13, .int .i64 (z.2))]) (fun _ => []) (fun z => S.fs.length - z.2) ((0, 0)) [(7, _), (9, _), (11, _)] [(603, _), (604, _), (601, _), (602, _), (66, _)] [603, 604, 601, 602, 66] rfl (rfl) (.cons rfl (.cons rfl (.nil _))) (.cons rfl (.cons rfl (.cons rfl (.nil _)))) (by
            try dsimp only
            exact ⟨Nat.zero_le _, rfl⟩) ?_
        rintro ⟨t, j⟩ ⟨hj, hat⟩
        refine w_norm2 (by dsimp only [List.cons_append, List.nil_append]) (by dsimp only [List.cons_append, List.nil_append]) ?_
        try dsimp only at hj hat ⊢
        refine w_seq ?_
        refine w_seq ?_
        refine w_region ?_
        refine wl_det rfl rfl rfl (op_move rfl) ?_
        refine wl_det rfl rfl rfl (op_move rfl) ?_
        refine wl_det rfl rfl rfl (op_nilCheck rfl) ?_
        refine wl_det rfl rfl rfl (op_fieldAddr (off := 1) rfl tF36_1s) ?_
        refine wl_det rfl rfl rfl (op_load1 rfl tO34s (Ent.lab (l := 603) rfl (says_cel 1))) ?_
        refine wl_det rfl rfl rfl (op_lenT rfl tS34s (Sl.ent (Sl.lab 604 rfl (by unfold maxLen; omega)))) ?_
        refine wl_det rfl rfl rfl (op_lss rfl rfl) ?_
        refine wl_nil ?_
        refine st_tn ?_
        refine w_cond_d rfl (fun hc73 => ?_) (fun hc73 => ?_)
        · -- c73.t
          obtain ⟨p, hx⟩ := getE (l := S.fs) (i := j) (by omega)
          have hpm := List.mem_of_getElem? hx
          have hsy : p.2.syn ≤ p.2.data.length := hg.syn p hpm
          have hnl := name_len hg p hpm
          refine w_skip ?_
          refine st_tn ?_
          refine w_seq ?_
          refine w_block ?_
          refine w_seq ?_
          refine w_region ?_
          refine wl_det rfl rfl rfl (op_move rfl) ?_
          refine wl_det rfl rfl rfl (op_nilCheck rfl) ?_
          refine wl_det rfl rfl rfl (op_fieldAddr (off := 1) rfl tF36_1s) ?_
          refine wl_det rfl rfl rfl (op_load1 rfl tO34s (Ent.lab (l := 603) rfl (says_cel 1))) ?_
          refine wl_det rfl rfl rfl (op_move rfl) ?_
          refine wl_det rfl rfl rfl (op_idx rfl rfl tS34s (Sl.ent (Sl.lab 604 rfl (by unfold maxLen; omega))) (by omega)) ?_
          refine wl_det rfl rfl rfl (op_ldxA rfl tA51s (Sl.lab 604 rfl (by unfold maxLen; omega)) (by assumption) (by rfl) (by rfl)) ?_
          refine wl_op [] rfl rfl rfl rfl (op_alloc (l := 14) tN51s) ?_
          rintro _ _ ⟨b14, rfl, rfl⟩
          refine wl_op0 [14] rfl rfl rfl (op_store rfl rfl tZ51s (by rfl) (by rfl) (by exact Nat.le_of_ble_eq_true rfl)) ?_
          rintro _ _ ⟨rfl, rfl⟩
          refine wl_nil ?_
          refine st_tn ?_
          refine w_seq ?_
          refine w_seq ?_
          refine w_region ?_
          refine wl_det rfl rfl rfl (op_fieldAddr (off := 3) rfl tF51_3s) ?_
          refine wl_det rfl rfl rfl (op_load1 rfl tO4s (Ent.lab (l := 14) rfl (says_cel 3))) ?_
          refine wl_det rfl rfl rfl (op_not rfl) ?_
          refine wl_nil ?_
          refine st_tn ?_
          refine w_cond rfl (fun hc85 => ?_) (fun hc85 => ?_)
          · -- c85.t
            refine w_exit ?_
            refine st_te ?_
            refine st_be ?_
            refine st_tn ?_
            refine w_region ?_
            refine wl_det rfl rfl rfl (op_move rfl) ?_
            refine wl_det rfl rfl rfl (op_add' rfl rfl (by omega)) ?_
            refine wl_det rfl rfl rfl (op_assign rfl) ?_
            refine wl_nil ?_
            refine st_roundQ (x := (t, j)) ((t, j + 1)) [603, 604, 601, 602, 66] rfl (rfl) (.cons rfl (.cons rfl (.nil _))) (.cons rfl (.cons rfl (.cons rfl (.nil _)))) (by
                try dsimp only
                refine ⟨by omega, ?_⟩; rw [cntD_snoc hx, if_neg (by simpa using hc85)]; omega) (by
                try dsimp only
                omega) 
          · -- c85.f
            obtain ⟨q, hq1, hq2⟩ := start_at S.fs sc j p hx (by simpa using hc85)
            rw [← hat] at hq1
            obtain ⟨hb1, hb2, hb3⟩ := cut_beg hsy hq2
            have hlt : t < cntD S.fs := by rw [← start_cnt S.fs sc]; exact ltE hq1
            have hk : (listO U)[t]? = some p.1 := by rw [hlo, keysOf, List.getElem?_map, hq1]; rfl
            have hqm : (p.1, q) ∈ U.fs := by rw [hUf]; exact List.mem_of_getElem? hq1
            have hr1 := read_at hgU hUd hqm false
            refine w_skip ?_
            refine st_tn ?_
            refine w_seq ?_
            refine w_seq ?_
            refine w_drawW (fun β => [⟨86, [], [], [], noW (_), false, [], []⟩, ⟨87, [], [], [], noW (_), false, [], []⟩, ⟨88, [1], [], [], noW (_), false, [], []⟩, ⟨89, [0, 2], [], [], noW (_), false, [], []⟩, ⟨90, [3], [], [], noW (_), false, [], []⟩, ⟨91, [], [], [], noW (_), false, [], []⟩, ⟨92, [], [], [], noW (_), false, [], []⟩, ⟨93, [5, 6], [], [], noW (_), false, [], []⟩, ⟨94, [7], [], [], noW (_), false, [], []⟩, ⟨95, [], [], [], noW (_), false, [], []⟩, ⟨96, [9], [], [], noW (_), false, [], []⟩, ⟨97, [8, 10], [], [], noW (_), false, [], []⟩, ⟨98, [4, 11], [], [], noW (_), false, [], []⟩]) [] [12, 11, 14] [⟨86, [], [], false, [], []⟩, ⟨87, [], [], false, [], []⟩, ⟨88, [1], [], false, [], []⟩, ⟨89, [0, 2], [], false, [], []⟩, ⟨90, [3], [], false, [], []⟩, ⟨91, [], [], false, [], []⟩, ⟨92, [], [], false, [], []⟩, ⟨93, [5, 6], [], false, [], []⟩, ⟨94, [7], [], false, [], []⟩, ⟨95, [], [], false, [], []⟩, ⟨96, [9], [], false, [], []⟩, ⟨97, [8, 10], [], false, [], []⟩, ⟨98, [4, 11], [], false, [], []⟩] [[], [], [], [], [], [], [], [], [], [], [], [], []] [[], [], [], [], [], [], [], [], [], [], [], [], []] tMixs (fun _ => by rfl) (fun _ => by rfl) (by kernel_rfl) (by kernel_rfl) (by rfl) (by rfl)
                (fun β => ⟨.p rfl (by intro X; exact op_move rfl),
                ⟨.p rfl (by intro X; exact op_move rfl),
                ⟨.p rfl (by intro X; rintro _ _ ⟨rfl, rfl⟩; exact op_lenT rfl tS48s (Sl.ent (Sl.lab 66 rfl (by unfold maxLen; omega)))),
                ⟨.p rfl (by intro X; rintro _ _ ⟨rfl, rfl⟩ _ _ ⟨rfl, rfl⟩; exact op_val (v' := .bool false) (by simp; omega) (op_geq rfl rfl)),
                ⟨.p rfl (by intro X; rintro _ _ ⟨rfl, rfl⟩; exact op_move rfl),
                ⟨.w rfl rfl rfl (by rintro _ _ ⟨rfl, rfl⟩; rfl) (by intro X; exact op_move rfl),
                ⟨.w rfl rfl rfl (by rintro _ _ ⟨rfl, rfl⟩; rfl) (by intro X; exact op_move rfl),
                ⟨.w rfl rfl rfl (by rintro _ _ ⟨rfl, rfl⟩; rfl) (by intro X; rintro _ _ ⟨rfl, rfl⟩ _ _ ⟨rfl, rfl⟩; exact op_idx rfl rfl tS48s (Sl.ent (Sl.lab 66 rfl (by unfold maxLen; omega))) (by omega)),
                ⟨.w rfl rfl rfl (by rintro _ _ ⟨rfl, rfl⟩; rfl) (by intro X; rintro _ _ ⟨rfl, rfl⟩; exact op_ldx rfl tO9s (Sl.lab 66 rfl (by unfold maxLen; omega)) (by assumption) (by rfl)),
                ⟨.w rfl rfl rfl (by rintro _ _ ⟨rfl, rfl⟩; rfl) (by intro X; exact op_fieldAddr (off := 0) rfl tF51_0s),
                ⟨.w rfl rfl rfl (by rintro _ _ ⟨rfl, rfl⟩; rfl) (by intro X; rintro _ _ ⟨rfl, rfl⟩; exact op_load1 rfl tO9s (Ent.lab (l := 14) rfl (says_cel 0))),
                ⟨.w rfl rfl rfl (by rintro _ _ ⟨rfl, rfl⟩; rfl) (by intro X; rintro _ _ ⟨rfl, rfl⟩ _ _ ⟨rfl, rfl⟩; exact op_val (v' := .bool false) (by simp) (op_neBs rfl rfl)),
                ⟨.p rfl (by intro X; rintro _ _ ⟨rfl, rfl⟩ _ _ ⟨rfl, rfl⟩; exact op_pick_f rfl rfl),
                trivial⟩⟩⟩⟩⟩⟩⟩⟩⟩⟩⟩⟩⟩)
                (fun β β' => ⟨fun _ => by rfl, ⟨fun _ => by rfl, ⟨fun _ => by rfl, ⟨fun _ => by rfl, ⟨fun _ => by rfl, ⟨fun _ => by rfl, ⟨fun _ => by rfl, ⟨fun _ => by rfl, ⟨fun _ => by rfl, ⟨fun _ => by rfl, ⟨fun _ => by rfl, ⟨fun _ => by rfl, ⟨fun _ => by rfl, trivial⟩⟩⟩⟩⟩⟩⟩⟩⟩⟩⟩⟩⟩) ?_
            intro β
            rintro _ _ ⟨rfl, rfl⟩ _ _ ⟨rfl, rfl⟩ _ _ ⟨rfl, rfl⟩ _ _ ⟨rfl, rfl⟩ _ _ ⟨rfl, rfl⟩ _ _ ⟨rfl, rfl⟩ _ _ ⟨rfl, rfl⟩ _ _ ⟨rfl, rfl⟩ _ _ ⟨rfl, rfl⟩ _ _ ⟨rfl, rfl⟩ _ _ ⟨rfl, rfl⟩ _ _ ⟨rfl, rfl⟩ _ _ ⟨rfl, rfl⟩
            refine wl_norm (e' := [(7, _), (9, _), (11, _), (12, _), (13, _), (14, _), (98, _)]) (.cons rfl (.cons rfl (.cons rfl (.cons rfl (.cons rfl (.cons rfl (.cons rfl (.nil _)))))))) (by dsimp only [cond_false, cond_true, List.nil_append, List.cons_append]) ?_
            refine wl_nil ?_
            refine st_tn ?_
            refine w_cond_f (rfl) ?_
            refine w_skip ?_
            refine st_tn ?_
            refine w_seq ?_
            refine w_region ?_
            refine wl_det rfl rfl rfl (op_move rfl) ?_
            refine wl_det rfl rfl rfl (op_fieldAddr (off := 0) rfl tF51_0s) ?_
            refine wl_det rfl rfl rfl (op_load1 rfl tO9s (Ent.lab (l := 14) rfl (says_cel 0))) ?_
            refine wl_det rfl rfl rfl (op_val (v' := .tuple #[.string (str q.data), .int .i64 0]) (by rw [hr1]; rfl) (op_fn Try.func28 rfl rfl rfl (read_any (s := U) (m := m9) p.1 hgU hp64 hnl (celD 601 rfl) (Mr.lab 602 rfl)))) ?_
            refine wl_det rfl rfl rfl (op_move rfl) ?_
            refine wl_det rfl rfl rfl (op_extract rfl rfl) ?_
            refine wl_det rfl rfl rfl (op_extract rfl rfl) ?_
            refine wl_det rfl rfl rfl (op_assign rfl) ?_
            refine wl_det rfl rfl rfl (op_assign rfl) ?_
            refine wl_nil ?_
            refine st_tn ?_
            refine w_seq ?_
            refine w_seq ?_
            refine w_region ?_
            refine wl_det rfl rfl rfl (op_move rfl) ?_
            refine wl_det rfl rfl rfl (op_val (v' := .bool false) (by simp) (op_neq rfl rfl)) ?_
            refine wl_det rfl rfl rfl (op_move rfl) ?_
            refine wl_wanted_det rfl rfl rfl rfl rfl rfl rfl (op_move rfl) ?_
            refine wl_wanted_det rfl rfl rfl rfl rfl rfl rfl (op_lenBs rfl Try.underlying9) ?_
            refine wl_wanted_det rfl rfl rfl rfl rfl rfl rfl (op_fieldAddr (off := 2) rfl tF51_2s) ?_
            refine wl_wanted_det rfl rfl rfl rfl rfl rfl rfl (op_load1 rfl tO3s (Ent.lab (l := 14) rfl (says_cel 2))) ?_
            refine wl_wanted_det rfl rfl rfl rfl rfl rfl rfl (op_val (v' := .bool false) (by simp; omega) (op_lss rfl rfl)) ?_
            refine wl_det rfl rfl rfl (op_pick_f rfl rfl) ?_
            refine wl_det rfl rfl rfl (op_move rfl) ?_
            refine wl_wanted_det rfl rfl rfl rfl rfl rfl rfl (op_move rfl) ?_
            refine wl_wanted_det rfl rfl rfl rfl rfl rfl rfl (op_lenBs rfl Try.underlying9) ?_
            refine wl_wanted_det rfl rfl rfl rfl rfl rfl rfl (op_fieldAddr (off := 1) rfl tF51_1s) ?_
            refine wl_wanted_det rfl rfl rfl rfl rfl rfl rfl (op_load1 rfl tO9s (Ent.lab (l := 14) rfl (says_cel 1))) ?_
            refine wl_wanted_det rfl rfl rfl rfl rfl rfl rfl (op_lenBs rfl Try.underlying9) ?_
            refine wl_wanted_det rfl rfl rfl rfl rfl rfl rfl (op_val (v' := .bool false) (by simp; omega) (op_gtr rfl rfl)) ?_
            refine wl_det rfl rfl rfl (op_pick_f rfl rfl) ?_
            refine wl_det rfl rfl rfl (op_move rfl) ?_
            refine wl_wanted_det rfl rfl rfl rfl rfl rfl rfl (op_move rfl) ?_
            refine wl_wanted_det rfl rfl rfl rfl rfl rfl rfl (op_fieldAddr (off := 1) rfl tF51_1s) ?_
            refine wl_wanted_det rfl rfl rfl rfl rfl rfl rfl (op_load1 rfl tO9s (Ent.lab (l := 14) rfl (says_cel 1))) ?_
            refine wl_wanted_det rfl rfl rfl rfl rfl rfl rfl (op_move rfl) ?_
            refine wl_wanted_det rfl rfl rfl rfl rfl rfl rfl (op_lenBs rfl Try.underlying9) ?_
            refine wl_wanted_det rfl rfl rfl rfl rfl rfl rfl (op_val (v' := .string (str q.data)) (by rw [hb3]) (op_sliceRBs rfl rfl Try.underlying9 (by omega))) ?_
            refine wl_wanted_det rfl rfl rfl rfl rfl rfl rfl (op_val (v' := .bool false) (by simp) (op_neBs rfl rfl)) ?_
            refine wl_det rfl rfl rfl (op_pick_f rfl rfl) ?_
            refine wl_nil ?_
            refine st_tn ?_
            refine w_cond_f (rfl) ?_
            refine w_skip ?_
            refine st_tn ?_
            refine w_region ?_
            refine wl_det rfl rfl rfl (op_move rfl) ?_
            refine wl_det rfl rfl rfl (op_add' rfl rfl (by omega)) ?_
            refine wl_det rfl rfl rfl (op_assign rfl) ?_
            refine wl_nil ?_
            refine st_bn ?_
            refine st_tn ?_
            refine w_region ?_
            refine wl_det rfl rfl rfl (op_move rfl) ?_
            refine wl_det rfl rfl rfl (op_add' rfl rfl (by omega)) ?_
            refine wl_det rfl rfl rfl (op_assign rfl) ?_
            refine wl_nil ?_
            refine st_roundQ (x := (t, j)) ((t + 1, j + 1)) [603, 604, 601, 602, 66] rfl (rfl) (.cons rfl (.cons rfl (.nil _))) (.cons rfl (.cons rfl (.cons rfl (.nil _)))) (by
                try dsimp only
                refine ⟨by omega, ?_⟩; rw [cntD_snoc hx, if_pos (by simpa using hc85)]; omega) (by
                try dsimp only
                omega) 
        · -- c73.f
          refine w_exit ?_
          refine st_te ?_
          refine st_te ?_
          refine st_be ?_
          refine st_tn ?_
          refine w_seq ?_
          have htt : t = cntD S.fs := by rw [hat, take_all (by omega)]
          refine w_region ?_
          refine wl_det rfl rfl rfl (op_move rfl) ?_
          refine wl_det rfl rfl rfl (op_move rfl) ?_
          refine wl_det rfl rfl rfl (op_lenT rfl tS48s (Sl.ent (Sl.lab 66 rfl (by unfold maxLen; omega)))) ?_
          refine wl_det rfl rfl rfl (op_val (v' := .bool true) (by simp; omega) (op_eql rfl rfl)) ?_
          refine wl_det rfl rfl rfl (op_assign rfl) ?_
          refine wl_nil ?_
          refine st_tn ?_
          refine w_ret ?_
          refine st_ret (vs := [_]) [] Try.results6 ⟨rfl, trivial⟩ rfl ?_
          refine ⟨_, rfl, ?_⟩
          exact ⟨rfl, rfl⟩
    · -- 47 is False
      refine wl_unwanted rfl rfl rfl rfl rfl rfl rfl rfl ?_
      refine wl_unwanted rfl rfl rfl rfl rfl rfl rfl rfl ?_
      refine wl_det rfl rfl rfl (op_pick_f rfl rfl) ?_
      refine wl_nil ?_
      refine st_tn ?_
      refine w_cond_f (rfl) ?_
      refine w_exit ?_
      refine st_te ?_
      refine st_te ?_
      refine st_be ?_
      refine st_tn ?_
      refine w_seq ?_
      have hgc := hg.cra
      have hcnt := hg.cnt
      refine w_region ?_
      refine wl_det rfl rfl rfl (op_move rfl) ?_
      refine wl_op [601] rfl rfl rfl rfl (op_fn Try.func25 rfl rfl rfl (crash_any S)) ?_
      rintro _ _ ⟨rfl, rfl⟩
      refine wl_nil ?_
      refine st_tn ?_
      refine w_seq ?_
      refine w_region ?_
      refine wl_det rfl rfl rfl (op_move rfl) ?_
      refine wl_det rfl rfl rfl (op_move rfl) ?_
      refine wl_op [601, 602] rfl rfl rfl rfl (op_fn Try.func26 rfl rfl rfl (sta_to (s := craO S) (sc := sc) rfl hgc hp (Sl.app hsc _))) ?_
      rintro _ _ ⟨l64, hp64, rfl, rfl⟩
      refine wl_nil ?_
      refine st_tn ?_
      refine w_seq ?_
      have hgU := hgc.sta sc
      obtain ⟨U, hU⟩ : ∃ U, staO (craO S) sc = U := ⟨_, rfl⟩
      rw [hU] at hgU hp64 ⊢
      have hUd : U.down = false := by rw [← hU]; exact rfl
      have hUf : U.fs = startF S.fs sc := by rw [← hU]; rfl
      have hlo : listO U = keysOf (startF S.fs sc) := by unfold listO; rw [if_neg (by simp [hUd]), hUf]
      have hcd : cntD S.fs ≤ S.fs.length := List.length_filter_le _ _
      have hll : (listO U).length = cntD S.fs := by rw [hlo, keysOf, List.length_map, start_cnt]
      refine w_region ?_
      refine wl_det rfl rfl rfl (op_move rfl) ?_
      refine wl_op [] rfl rfl rfl rfl (op_fn Try.func27 rfl rfl rfl (list_any (s := U) (m := m9) 66 hgU hp64 (celD 601 rfl) (Mr.lab 602 rfl))) ?_
      rintro _ _ ⟨a66, c66, rfl, rfl⟩
      refine wl_det rfl rfl rfl (op_assign rfl) ?_
      refine wl_nil ?_
      refine st_tn ?_
      refine w_seq ?_
      refine w_region ?_
      refine wl_det rfl rfl rfl (op_assign rfl) ?_
      refine wl_nil ?_
      refine st_tn ?_
      refine w_seq ?_
      refine w_seq ?_
      refine w_region ?_
      refine wl_det rfl rfl rfl (op_assign rfl) ?_
      refine wl_nil ?_
      refine st_tn ?_
      refine w_block ?_
      refine w_loopQ (X := Nat × Nat) (fun z => z.2 ≤ S.fs.length ∧ z.1 = cntD (S.fs.take z.2)) (fun z => [(12, .int .i64 (z.1)), (13, .int .i64 (z.2))]) (fun _ => []) (fun z => S.fs.length - z.2) ((0, 0)) [(7, _), (9, _), (11, _)] [(603, _), (604, _), (601, _), (602, _), (66, _)] [603, 604, 601, 602, 66] rfl (rfl) (.cons rfl (.cons rfl (.nil _))) (.cons rfl (.cons rfl (.cons rfl (.nil _)))) (by
          try dsimp only
          exact ⟨Nat.zero_le _, rfl⟩) ?_
      rintro ⟨t, j⟩ ⟨hj, hat⟩
      refine w_norm2 (by dsimp only [List.cons_append, List.nil_append]) (by dsimp only [List.cons_append, List.nil_append]) ?_
      try dsimp only at hj hat ⊢
      refine w_seq ?_
      refine w_seq ?_
      refine w_region ?_
      refine wl_det rfl rfl rfl (op_move rfl) ?_
      refine wl_det rfl rfl rfl (op_move rfl) ?_
      refine wl_det rfl rfl rfl (op_nilCheck rfl) ?_
      refine wl_det rfl rfl rfl (op_fieldAddr (off := 1) rfl tF36_1s) ?_
      refine wl_det rfl rfl rfl (op_load1 rfl tO34s (Ent.lab (l := 603) rfl (says_cel 1))) ?_
      refine wl_det rfl rfl rfl (op_lenT rfl tS34s (Sl.ent (Sl.lab 604 rfl (by unfold maxLen; omega)))) ?_
      refine wl_det rfl rfl rfl (op_lss rfl rfl) ?_
      refine wl_nil ?_
      refine st_tn ?_
      refine w_cond_d rfl (fun hc73 => ?_) (fun hc73 => ?_)
      · -- c73.t
        obtain ⟨p, hx⟩ := getE (l := S.fs) (i := j) (by omega)
        have hpm := List.mem_of_getElem? hx
        have hsy : p.2.syn ≤ p.2.data.length := hg.syn p hpm
        have hnl := name_len hg p hpm
        refine w_skip ?_
        refine st_tn ?_
        refine w_seq ?_
        refine w_block ?_
        refine w_seq ?_
        refine w_region ?_
        refine wl_det rfl rfl rfl (op_move rfl) ?_
        refine wl_det rfl rfl rfl (op_nilCheck rfl) ?_
        refine wl_det rfl rfl rfl (op_fieldAddr (off := 1) rfl tF36_1s) ?_
        refine wl_det rfl rfl rfl (op_load1 rfl tO34s (Ent.lab (l := 603) rfl (says_cel 1))) ?_
        refine wl_det rfl rfl rfl (op_move rfl) ?_
        refine wl_det rfl rfl rfl (op_idx rfl rfl tS34s (Sl.ent (Sl.lab 604 rfl (by unfold maxLen; omega))) (by omega)) ?_
        refine wl_det rfl rfl rfl (op_ldxA rfl tA51s (Sl.lab 604 rfl (by unfold maxLen; omega)) (by assumption) (by rfl) (by rfl)) ?_
        refine wl_op [] rfl rfl rfl rfl (op_alloc (l := 14) tN51s) ?_
        rintro _ _ ⟨b14, rfl, rfl⟩
        refine wl_op0 [14] rfl rfl rfl (op_store rfl rfl tZ51s (by rfl) (by rfl) (by exact Nat.le_of_ble_eq_true rfl)) ?_
        rintro _ _ ⟨rfl, rfl⟩
        refine wl_nil ?_
        refine st_tn ?_
        refine w_seq ?_
        refine w_seq ?_
        refine w_region ?_
        refine wl_det rfl rfl rfl (op_fieldAddr (off := 3) rfl tF51_3s) ?_
        refine wl_det rfl rfl rfl (op_load1 rfl tO4s (Ent.lab (l := 14) rfl (says_cel 3))) ?_
        refine wl_det rfl rfl rfl (op_not rfl) ?_
        refine wl_nil ?_
        refine st_tn ?_
        refine w_cond rfl (fun hc85 => ?_) (fun hc85 => ?_)
        · -- c85.t
          refine w_exit ?_
          refine st_te ?_
          refine st_be ?_
          refine st_tn ?_
          refine w_region ?_
          refine wl_det rfl rfl rfl (op_move rfl) ?_
          refine wl_det rfl rfl rfl (op_add' rfl rfl (by omega)) ?_
          refine wl_det rfl rfl rfl (op_assign rfl) ?_
          refine wl_nil ?_
          refine st_roundQ (x := (t, j)) ((t, j + 1)) [603, 604, 601, 602, 66] rfl (rfl) (.cons rfl (.cons rfl (.nil _))) (.cons rfl (.cons rfl (.cons rfl (.nil _)))) (by
              try dsimp only
              refine ⟨by omega, ?_⟩; rw [cntD_snoc hx, if_neg (by simpa using hc85)]; omega) (by
              try dsimp only
              omega) 
        · -- c85.f
          obtain ⟨q, hq1, hq2⟩ := start_at S.fs sc j p hx (by simpa using hc85)
          rw [← hat] at hq1
          obtain ⟨hb1, hb2, hb3⟩ := cut_beg hsy hq2
          have hlt : t < cntD S.fs := by rw [← start_cnt S.fs sc]; exact ltE hq1
          have hk : (listO U)[t]? = some p.1 := by rw [hlo, keysOf, List.getElem?_map, hq1]; rfl
          have hqm : (p.1, q) ∈ U.fs := by rw [hUf]; exact List.mem_of_getElem? hq1
          have hr1 := read_at hgU hUd hqm false
          refine w_skip ?_
          refine st_tn ?_
          refine w_seq ?_
          refine w_seq ?_
          refine w_drawW (fun β => [⟨86, [], [], [], noW (_), false, [], []⟩, ⟨87, [], [], [], noW (_), false, [], []⟩, ⟨88, [1], [], [], noW (_), false, [], []⟩, ⟨89, [0, 2], [], [], noW (_), false, [], []⟩, ⟨90, [3], [], [], noW (_), false, [], []⟩, ⟨91, [], [], [], noW (_), false, [], []⟩, ⟨92, [], [], [], noW (_), false, [], []⟩, ⟨93, [5, 6], [], [], noW (_), false, [], []⟩, ⟨94, [7], [], [], noW (_), false, [], []⟩, ⟨95, [], [], [], noW (_), false, [], []⟩, ⟨96, [9], [], [], noW (_), false, [], []⟩, ⟨97, [8, 10], [], [], noW (_), false, [], []⟩, ⟨98, [4, 11], [], [], noW (_), false, [], []⟩]) [] [12, 11, 14] [⟨86, [], [], false, [], []⟩, ⟨87, [], [], false, [], []⟩, ⟨88, [1], [], false, [], []⟩, ⟨89, [0, 2], [], false, [], []⟩, ⟨90, [3], [], false, [], []⟩, ⟨91, [], [], false, [], []⟩, ⟨92, [], [], false, [], []⟩, ⟨93, [5, 6], [], false, [], []⟩, ⟨94, [7], [], false, [], []⟩, ⟨95, [], [], false, [], []⟩, ⟨96, [9], [], false, [], []⟩, ⟨97, [8, 10], [], false, [], []⟩, ⟨98, [4, 11], [], false, [], []⟩] [[], [], [], [], [], [], [], [], [], [], [], [], []] [[], [], [], [], [], [], [], [], [], [], [], [], []] tMixs (fun _ => by rfl) (fun _ => by rfl) (by kernel_rfl) (by kernel_rfl) (by rfl) (by rfl)
              (fun β => ⟨.p rfl (by intro X; exact op_move rfl),
              ⟨.p rfl (by intro X; exact op_move rfl),
              ⟨.p rfl (by intro X; rintro _ _ ⟨rfl, rfl⟩; exact op_lenT rfl tS48s (Sl.ent (Sl.lab 66 rfl (by unfold maxLen; omega)))),
              ⟨.p rfl (by intro X; rintro _ _ ⟨rfl, rfl⟩ _ _ ⟨rfl, rfl⟩; exact op_val (v' := .bool false) (by simp; omega) (op_geq rfl rfl)),
              ⟨.p rfl (by intro X; rintro _ _ ⟨rfl, rfl⟩; exact op_move rfl),
              ⟨.w rfl rfl rfl (by rintro _ _ ⟨rfl, rfl⟩; rfl) (by intro X; exact op_move rfl),
              ⟨.w rfl rfl rfl (by rintro _ _ ⟨rfl, rfl⟩; rfl) (by intro X; exact op_move rfl),
              ⟨.w rfl rfl rfl (by rintro _ _ ⟨rfl, rfl⟩; rfl) (by intro X; rintro _ _ ⟨rfl, rfl⟩ _ _ ⟨rfl, rfl⟩; exact op_idx rfl rfl tS48s (Sl.ent (Sl.lab 66 rfl (by unfold maxLen; omega))) (by omega)),
              ⟨.w rfl rfl rfl (by rintro _ _ ⟨rfl, rfl⟩; rfl) (by intro X; rintro _ _ ⟨rfl, rfl⟩; exact op_ldx rfl tO9s (Sl.lab 66 rfl (by unfold maxLen; omega)) (by assumption) (by rfl)),
              ⟨.w rfl rfl rfl (by rintro _ _ ⟨rfl, rfl⟩; rfl) (by intro X; exact op_fieldAddr (off := 0) rfl tF51_0s),
              ⟨.w rfl rfl rfl (by rintro _ _ ⟨rfl, rfl⟩; rfl) (by intro X; rintro _ _ ⟨rfl, rfl⟩; exact op_load1 rfl tO9s (Ent.lab (l := 14) rfl (says_cel 0))),
              ⟨.w rfl rfl rfl (by rintro _ _ ⟨rfl, rfl⟩; rfl) (by intro X; rintro _ _ ⟨rfl, rfl⟩ _ _ ⟨rfl, rfl⟩; exact op_val (v' := .bool false) (by simp) (op_neBs rfl rfl)),
              ⟨.p rfl (by intro X; rintro _ _ ⟨rfl, rfl⟩ _ _ ⟨rfl, rfl⟩; exact op_pick_f rfl rfl),
              trivial⟩⟩⟩⟩⟩⟩⟩⟩⟩⟩⟩⟩⟩)
              (fun β β' => ⟨fun _ => by rfl, ⟨fun _ => by rfl, ⟨fun _ => by rfl, ⟨fun _ => by rfl, ⟨fun _ => by rfl, ⟨fun _ => by rfl, ⟨fun _ => by rfl, ⟨fun _ => by rfl, ⟨fun _ => by rfl, ⟨fun _ => by rfl, ⟨fun _ => by rfl, ⟨fun _ => by rfl, ⟨fun _ => by rfl, trivial⟩⟩⟩⟩⟩⟩⟩⟩⟩⟩⟩⟩⟩) ?_
          intro β
          rintro _ _ ⟨rfl, rfl⟩ _ _ ⟨rfl, rfl⟩ _ _ ⟨rfl, rfl⟩ _ _ ⟨rfl, rfl⟩ _ _ ⟨rfl, rfl⟩ _ _ ⟨rfl, rfl⟩ _ _ ⟨rfl, rfl⟩ _ _ ⟨rfl, rfl⟩ _ _ ⟨rfl, rfl⟩ _ _ ⟨rfl, rfl⟩ _ _ ⟨rfl, rfl⟩ _ _ ⟨rfl, rfl⟩ _ _ ⟨rfl, rfl⟩
          refine wl_norm (e' := [(7, _), (9, _), (11, _), (12, _), (13, _), (14, _), (98, _)]) (.cons rfl (.cons rfl (.cons rfl (.cons rfl (.cons rfl (.cons rfl (.cons rfl (.nil _)))))))) (by dsimp only [cond_false, cond_true, List.nil_append, List.cons_append]) ?_
          refine wl_nil ?_
          refine st_tn ?_
          refine w_cond_f (rfl) ?_
          refine w_skip ?_
          refine st_tn ?_
          refine w_seq ?_
          refine w_region ?_
          refine wl_det rfl rfl rfl (op_move rfl) ?_
          refine wl_det rfl rfl rfl (op_fieldAddr (off := 0) rfl tF51_0s) ?_
          refine wl_det rfl rfl rfl (op_load1 rfl tO9s (Ent.lab (l := 14) rfl (says_cel 0))) ?_
          refine wl_det rfl rfl rfl (op_val (v' := .tuple #[.string (str q.data), .int .i64 0]) (by rw [hr1]; rfl) (op_fn Try.func28 rfl rfl rfl (read_any (s := U) (m := m9) p.1 hgU hp64 hnl (celD 601 rfl) (Mr.lab 602 rfl)))) ?_
          refine wl_det rfl rfl rfl (op_move rfl) ?_
          refine wl_det rfl rfl rfl (op_extract rfl rfl) ?_
          refine wl_det rfl rfl rfl (op_extract rfl rfl) ?_
          refine wl_det rfl rfl rfl (op_assign rfl) ?_
          refine wl_det rfl rfl rfl (op_assign rfl) ?_
          refine wl_nil ?_
          refine st_tn ?_
          refine w_seq ?_
          refine w_seq ?_
          refine w_region ?_
          refine wl_det rfl rfl rfl (op_move rfl) ?_
          refine wl_det rfl rfl rfl (op_val (v' := .bool false) (by simp) (op_neq rfl rfl)) ?_
          refine wl_det rfl rfl rfl (op_move rfl) ?_
          refine wl_wanted_det rfl rfl rfl rfl rfl rfl rfl (op_move rfl) ?_
          refine wl_wanted_det rfl rfl rfl rfl rfl rfl rfl (op_lenBs rfl Try.underlying9) ?_
          refine wl_wanted_det rfl rfl rfl rfl rfl rfl rfl (op_fieldAddr (off := 2) rfl tF51_2s) ?_
          refine wl_wanted_det rfl rfl rfl rfl rfl rfl rfl (op_load1 rfl tO3s (Ent.lab (l := 14) rfl (says_cel 2))) ?_
          refine wl_wanted_det rfl rfl rfl rfl rfl rfl rfl (op_val (v' := .bool false) (by simp; omega) (op_lss rfl rfl)) ?_
          refine wl_det rfl rfl rfl (op_pick_f rfl rfl) ?_
          refine wl_det rfl rfl rfl (op_move rfl) ?_
          refine wl_wanted_det rfl rfl rfl rfl rfl rfl rfl (op_move rfl) ?_
          refine wl_wanted_det rfl rfl rfl rfl rfl rfl rfl (op_lenBs rfl Try.underlying9) ?_
          refine wl_wanted_det rfl rfl rfl rfl rfl rfl rfl (op_fieldAddr (off := 1) rfl tF51_1s) ?_
          refine wl_wanted_det rfl rfl rfl rfl rfl rfl rfl (op_load1 rfl tO9s (Ent.lab (l := 14) rfl (says_cel 1))) ?_
          refine wl_wanted_det rfl rfl rfl rfl rfl rfl rfl (op_lenBs rfl Try.underlying9) ?_
          refine wl_wanted_det rfl rfl rfl rfl rfl rfl rfl (op_val (v' := .bool false) (by simp; omega) (op_gtr rfl rfl)) ?_
          refine wl_det rfl rfl rfl (op_pick_f rfl rfl) ?_
          refine wl_det rfl rfl rfl (op_move rfl) ?_
          refine wl_wanted_det rfl rfl rfl rfl rfl rfl rfl (op_move rfl) ?_
          refine wl_wanted_det rfl rfl rfl rfl rfl rfl rfl (op_fieldAddr (off := 1) rfl tF51_1s) ?_
          refine wl_wanted_det rfl rfl rfl rfl rfl rfl rfl (op_load1 rfl tO9s (Ent.lab (l := 14) rfl (says_cel 1))) ?_
          refine wl_wanted_det rfl rfl rfl rfl rfl rfl rfl (op_move rfl) ?_
          refine wl_wanted_det rfl rfl rfl rfl rfl rfl rfl (op_lenBs rfl Try.underlying9) ?_
          refine wl_wanted_det rfl rfl rfl rfl rfl rfl rfl (op_val (v' := .string (str q.data)) (by rw [hb3]) (op_sliceRBs rfl rfl Try.underlying9 (by omega))) ?_
          refine wl_wanted_det rfl rfl rfl rfl rfl rfl rfl (op_val (v' := .bool false) (by simp) (op_neBs rfl rfl)) ?_
          refine wl_det rfl rfl rfl (op_pick_f rfl rfl) ?_
          refine wl_nil ?_
          refine st_tn ?_
          refine w_cond_f (rfl) ?_
          refine w_skip ?_
          refine st_tn ?_
          refine w_region ?_
          refine wl_det rfl rfl rfl (op_move rfl) ?_
          refine wl_det rfl rfl rfl (op_add' rfl rfl (by omega)) ?_
          refine wl_det rfl rfl rfl (op_assign rfl) ?_
          refine wl_nil ?_
          refine st_bn ?_
          refine st_tn ?_
          refine w_region ?_
          refine wl_det rfl rfl rfl (op_move rfl) ?_
          refine wl_det rfl rfl rfl (op_add' rfl rfl (by omega)) ?_
          refine wl_det rfl rfl rfl (op_assign rfl) ?_
          refine wl_nil ?_
          refine st_roundQ (x := (t, j)) ((t + 1, j + 1)) [603, 604, 601, 602, 66] rfl (rfl) (.cons rfl (.cons rfl (.nil _))) (.cons rfl (.cons rfl (.cons rfl (.nil _)))) (by
              try dsimp only
              refine ⟨by omega, ?_⟩; rw [cntD_snoc hx, if_pos (by simpa using hc85)]; omega) (by
              try dsimp only
              omega) 
      · -- c73.f
        refine w_exit ?_
        refine st_te ?_
        refine st_te ?_
        refine st_be ?_
        refine st_tn ?_
        refine w_seq ?_
        have htt : t = cntD S.fs := by rw [hat, take_all (by omega)]
        refine w_region ?_
        refine wl_det rfl rfl rfl (op_move rfl) ?_
        refine wl_det rfl rfl rfl (op_move rfl) ?_
        refine wl_det rfl rfl rfl (op_lenT rfl tS48s (Sl.ent (Sl.lab 66 rfl (by unfold maxLen; omega)))) ?_
        refine wl_det rfl rfl rfl (op_val (v' := .bool true) (by simp; omega) (op_eql rfl rfl)) ?_
        refine wl_det rfl rfl rfl (op_assign rfl) ?_
        refine wl_nil ?_
        refine st_tn ?_
        refine w_ret ?_
        refine st_ret (vs := [_]) [] Try.results6 ⟨rfl, trivial⟩ rfl ?_
        refine ⟨_, rfl, ?_⟩
        exact ⟨rfl, rfl⟩

/-- A file that is synced. -/
def syncd (p : Bs × Fl) : Bs × Fl := (p.1, ⟨p.2.data, p.2.data.length, true⟩)
/-- A disk whose first files are synced. -/
def midS (s : St) (i : Nat) : St := { s with fs := (s.fs.take i).map syncd ++ s.fs.drop i, lim := true, left := (s.fs.length : Int) - i }
theorem mid0 (s : St) : midS s 0 = limO s s.fs.length := by
  unfold midS limO
  simp only [List.take_zero, List.map_nil, List.nil_append, List.drop_zero]
  congr 1; omega
theorem mid_inc {s : St} (hi : DskM.Inc s.fs) (i : Nat) : DskM.Inc (midS s i).fs := by
  have h1 : ((s.fs.take i).map syncd ++ s.fs.drop i).map Prod.fst = s.fs.map Prod.fst := by
    conv => rhs; rw [← List.take_append_drop i s.fs]
    rw [List.map_append, List.map_append, List.map_map]; rfl
  have h2 := DskM.Inc.keys hi
  rw [← h1, List.pairwise_map] at h2
  exact h2
theorem mid_at {s : St} {i : Nat} {p : Bs × Fl} (h : s.fs[i]? = some p) : (midS s i).fs = (s.fs.take i).map syncd ++ (p.1, p.2) :: s.fs.drop (i + 1) := by
  unfold midS; simp only; rw [drop_at h]
theorem mid_read {s : St} {i : Nat} {p : Bs × Fl} (hi : DskM.Inc s.fs) (h : s.fs[i]? = some p) : find (midS s i).fs p.1 = some p.2 :=
  find_of (mid_inc hi i) (by rw [mid_at h]; simp)
theorem mid_ready {s : St} {i : Nat} (hd : s.down = false) {n : Bs} (hn : nameB n = true) : ¬ readyE (midS s i) [n] ≠ 0 := by
  unfold readyE midS; rw [if_neg (by simp [hd]), if_pos (by simp [hn])]; simp
theorem mid_sync {s : St} {i : Nat} {p : Bs × Fl} (hi : DskM.Inc s.fs) (hd : s.down = false) (hn : nameB p.1 = true) (h : s.fs[i]? = some p) : synO (midS s i) p.1 = (0, midS s (i + 1)) := by
  have hlt := ltE h
  have ho : oper (midS s i) = (true, { midS s i with left := (s.fs.length : Int) - i - 1 }) := by
    unfold oper; rw [if_pos (show (midS s i).lim = true from rfl), if_neg (show ¬ (midS s i).left ≤ 0 by unfold midS; simp only; omega)]; rfl
  rw [syn_done (mid_ready hd hn) (mid_read hi h) (by rw [ho]), ho]
  have hinc := mid_inc hi i
  rw [mid_at h] at hinc
  have hlow : ∀ q ∈ (s.fs.take i).map syncd, q.1 < p.1 := fun q hq => (List.pairwise_append.1 hinc).2.2 q hq _ List.mem_cons_self
  rw [mid_at h, setS_mid hlow]
  unfold midS
  simp only
  congr 1
  rw [take_snoc h, List.map_append]
  congr 1
  · simp [syncd]
  · omega
theorem mid_end {s : St} {i : Nat} (h : s.fs.length ≤ i) : (midS s i).fs = s.fs.map syncd := by
  unfold midS; simp only; rw [take_all h, List.drop_of_length_le h, List.append_nil]
theorem start_synced : ∀ (fs : Files) (sc : List Int), startF (fs.map syncd) sc = fs.map syncd
  | [], _ => rfl
  | p :: l, sc => by
    rw [List.map_cons]; unfold startF
    rw [if_pos (show (syncd p).2.dur = true from rfl), if_pos (show (syncd p).2.data.length - (syncd p).2.syn = 0 from Nat.sub_self _), start_synced l]
theorem read_mid {s : St} {i : Nat} {p : Bs × Fl} (hi : DskM.Inc s.fs) (hd : s.down = false) (hn : nameB p.1 = true) (h : s.fs[i]? = some p) : readO (midS s i) p.1 false = (p.2.data, 0) := by
  unfold readO; rw [if_neg (mid_ready hd hn), mid_read hi h]; rfl
theorem keys_syncd (fs : Files) : keysOf (fs.map syncd) = keysOf fs := by unfold keysOf; rw [List.map_map]; rfl
theorem sta_up2 (s : St) (sc : List Int) : (staO s sc).down = false := by
  cases h : s.down
  · rw [sta_up h]; exact h
  · rw [sta_down h]
set_option maxHeartbeats 8000000 in
set_option maxRecDepth 100000 in
theorem lawSyncs_any {σ : World} {F : List Res} {a : Option Addr} {c : Nat} {L : List OprA} {a2 : Option Addr} {c2 : Nat} {sc : List Int} (n : Int) (hn : 0 ≤ n ∧ n ≤ 255) (hL : OkL σ F a c L) (hsc : Sl σ F SL.encZ 1 (.slice a2 sc.length c2) sc) : FnT Try.prog σ F 7 [.int .u8 n, .slice a L.length c, .slice a2 sc.length c2] [] (fun u ρ => u = .bool true ∧ ρ = []) := by
  refine fn_of 149 Try.func7 rfl Try.ntmps7 rfl ?_
  have hsl := hL.sl
  have hle := hsl.i64
  refine w_seq ?_
  refine w_region ?_
  refine wl_det rfl rfl rfl (op_assign rfl) ?_
  refine wl_nil ?_
  refine st_tn ?_
  refine w_seq ?_
  refine w_region ?_
  refine wl_det rfl rfl rfl (op_move rfl) ?_
  refine wl_det rfl rfl rfl (op_fn Try.func13 rfl rfl rfl (capac_any n (by assumption))) ?_
  refine wl_op [] rfl rfl rfl rfl (op_fn Try.func12 rfl rfl rfl (new_ok (20 + n) 601 602 (by omega))) ?_
  rintro _ _ ⟨b9, m9, rfl, rfl⟩
  refine wl_det rfl rfl rfl (op_move rfl) ?_
  refine wl_det rfl rfl rfl (op_extract rfl rfl) ?_
  refine wl_det rfl rfl rfl (op_extract rfl rfl) ?_
  refine wl_det rfl rfl rfl (op_assign rfl) ?_
  refine wl_det rfl rfl rfl (op_assign rfl) ?_
  refine wl_nil ?_
  refine st_tn ?_
  refine w_seq ?_
  refine w_seq ?_
  refine w_region ?_
  refine wl_det rfl rfl rfl (op_fn Try.func14 rfl rfl rfl (known_any)) ?_
  refine wl_det rfl rfl rfl (op_not_t rfl) ?_
  refine wl_det rfl rfl rfl (op_move rfl) ?_
  refine wl_wanted_det rfl rfl rfl rfl rfl rfl rfl (op_move rfl) ?_
  refine wl_wanted_det rfl rfl rfl rfl rfl rfl rfl (op_val (v' := .bool false) (by rfl) (op_neq rfl rfl)) ?_
  refine wl_det rfl rfl rfl (op_pick_f rfl rfl) ?_
  refine wl_det rfl rfl rfl (op_move rfl) ?_
  refine wl_wanted_det rfl rfl rfl rfl rfl rfl rfl (op_move rfl) ?_
  refine wl_wanted_det rfl rfl rfl rfl rfl rfl rfl (op_lenT rfl tS41s (Sl.ent (by first | exact Sl.app (by assumption) _ | exact Sl.app (Sl.app (by assumption) _) _))) ?_
  refine wl_wanted_det rfl rfl rfl rfl rfl rfl rfl (op_gtr rfl rfl) ?_
  refine wl_det rfl rfl rfl (op_pick_f rfl rfl) ?_
  refine wl_nil ?_
  refine st_tn ?_
  refine w_cond_d rfl (fun hc36 => ?_) (fun hc36 => ?_)
  · -- c36.t
    refine w_seq ?_
    refine w_region ?_
    refine wl_det rfl rfl rfl (op_fn Try.func14 rfl rfl rfl (known_any)) ?_
    refine wl_det rfl rfl rfl (op_move rfl) ?_
    refine wl_wanted_det rfl rfl rfl rfl rfl rfl rfl (op_move rfl) ?_
    refine wl_wanted_det rfl rfl rfl rfl rfl rfl rfl (op_val (v' := .bool true) (by rfl) (op_eql rfl rfl)) ?_
    refine wl_det rfl rfl rfl (op_pick_t rfl rfl) ?_
    refine wl_det rfl rfl rfl (op_assign rfl) ?_
    refine wl_nil ?_
    refine st_tn ?_
    refine w_ret ?_
    refine st_tr ?_
    refine st_ret (vs := [_]) [] Try.results7 ⟨rfl, trivial⟩ rfl ?_
    refine ⟨_, rfl, ?_⟩
    exact ⟨rfl, rfl⟩
  · -- c36.f
    refine w_skip ?_
    refine st_tn ?_
    refine w_seq ?_
    refine w_emp 604 (r := slW 51 encM 4 (.slice none 0 0) (newS (20 + n)).fs) (slO_nil 51 4) ?_
    refine w_region ?_
    refine wl_det rfl rfl rfl (op_move rfl) ?_
    refine wl_det rfl rfl rfl (op_fn Try.func13 rfl rfl rfl (capac_any n (by assumption))) ?_
    refine wl_det rfl rfl rfl (op_build tB36s rfl rfl) ?_
    refine wl_op [] rfl rfl rfl rfl (op_box (T := 36) (l := 603) rfl) ?_
    rintro _ _ ⟨b24, rfl, rfl⟩
    refine wl_det rfl rfl rfl (op_assign rfl) ?_
    refine wl_nil ?_
    refine st_tn ?_
    refine w_seq ?_
    refine w_seq ?_
    refine w_region ?_
    refine wl_det rfl rfl rfl (op_assign rfl) ?_
    refine wl_nil ?_
    refine st_tn ?_
    refine w_block ?_
    refine w_loopQ (X := Nat × DskM.St × DskM.Files × Option Addr × Nat × Nat) (fun z => z.1 ≤ L.length ∧ DskM.Good z.2.1 ∧ z.2.2.1.Perm z.2.1.fs) (fun z => [(10, .int .i64 (z.1))]) (fun z => [(601, cel b9 (cellD (z.2.1) m9) 65), (602, mp KL encF m9 (z.2.2.1)), (603, cel b24 (cellS (z.2.1) (z.2.2.2.1) (z.2.2.2.2.1) (z.2.2.2.2.2)) 36), (604, slW 51 encM 4 (.slice (z.2.2.2.1) (z.2.2.2.2.1) (z.2.2.2.2.2)) (z.2.1).fs)]) (fun z => L.length - z.1) ((0, newS (20 + n), [], none, 0, 0)) [(1, _), (2, _), (7, _), (9, _)] [] [601, 602, 603, 604] rfl (rfl) (.cons rfl (.nil _)) (.cons rfl (.cons rfl (.cons rfl (.cons rfl (.nil _))))) (by
        try dsimp only
        exact ⟨Nat.zero_le _, good_new (by omega), List.Perm.refl _⟩) ?_
    rintro ⟨i, S, l_S, a_S, m_S, c_S⟩ ⟨hi, hg, hp⟩
    refine w_norm2 (by dsimp only [List.cons_append, List.nil_append]) (by dsimp only [List.cons_append, List.nil_append]) ?_
    try dsimp only at hi hg hp ⊢
    refine w_seq ?_
    refine w_seq ?_
    refine w_region ?_
    refine wl_det rfl rfl rfl (op_move rfl) ?_
    refine wl_det rfl rfl rfl (op_move rfl) ?_
    refine wl_det rfl rfl rfl (op_lenT rfl tS39s (Sl.ent (Sl.app hsl _))) ?_
    refine wl_det rfl rfl rfl (op_lss rfl rfl) ?_
    refine wl_det rfl rfl rfl (op_move rfl) ?_
    refine wl_gsplit (t := 50) rfl (fun hg50 => ?_) (fun hg50 => ?_)
    · -- 50 is True
      obtain ⟨y, hy⟩ := getE (l := L) (i := i) (by omega)
      have hym := List.mem_of_getElem? hy
      refine wl_wanted_det rfl rfl rfl rfl rfl rfl rfl (op_move rfl) ?_
      refine wl_wanted_det rfl rfl rfl rfl rfl rfl rfl (op_lss rfl rfl) ?_
      refine wl_det rfl rfl rfl (op_pick_t rfl rfl) ?_
      refine wl_nil ?_
      refine st_tn ?_
      refine w_cond_d rfl (fun hc53 => ?_) (fun hc53 => ?_)
      · -- c53.t
        refine w_skip ?_
        refine st_tn ?_
        refine w_seq ?_
        refine w_block ?_
        refine w_region ?_
        refine wl_det rfl rfl rfl (op_move rfl) ?_
        refine wl_det rfl rfl rfl (op_move rfl) ?_
        refine wl_det rfl rfl rfl (op_move rfl) ?_
        refine wl_det rfl rfl rfl (op_move rfl) ?_
        refine wl_det rfl rfl rfl (op_idx rfl rfl tS39s (Sl.ent (Sl.app hsl _)) (by omega)) ?_
        refine wl_det rfl rfl rfl (op_ldxA rfl tA43s (Sl.app hsl _) (by assumption) (by rfl) (by rfl)) ?_
        refine wl_op [601, 602, 603, 604] rfl rfl rfl rfl (op_fn Try.func24 rfl rfl rfl (perform_any (x := y.x) hg hp (hL.ok y hym) (Sl.app (hL.sc y hym) _))) ?_
        rintro _ _ ⟨rfl, l41, a41, m41, c41, hp41, rfl⟩
        refine wl_nil ?_
        refine st_bn ?_
        refine st_tn ?_
        refine w_region ?_
        refine wl_det rfl rfl rfl (op_move rfl) ?_
        refine wl_det rfl rfl rfl (op_add' rfl rfl (by omega)) ?_
        refine wl_det rfl rfl rfl (op_assign rfl) ?_
        refine wl_nil ?_
        refine st_roundQ (x := (i, S, l_S, a_S, m_S, c_S)) ((i + 1, perfS S y.x, l41, a41, m41, c41)) [601, 602, 603, 604] rfl (rfl) (.cons rfl (.nil _)) (.cons rfl (.cons rfl (.cons rfl (.cons rfl (.nil _))))) (by
            try dsimp only
            exact ⟨by omega, Good.perf hg (hL.ok y hym), hp41⟩) (by
            try dsimp only
            omega) 
      · -- c53.f
        refine w_exit ?_
        refine st_te ?_
        refine st_te ?_
        refine st_be ?_
        refine st_tn ?_
        refine w_seq ?_
        refine w_region ?_
        refine wl_det rfl rfl rfl (op_move rfl) ?_
        refine wl_op [601, 602] rfl rfl rfl rfl (op_fn Try.func26 rfl rfl rfl (sta_to (s := S) (sc := []) rfl hg hp Sl.nilv)) ?_
        rintro _ _ ⟨l64, hp64, rfl, rfl⟩
        refine wl_nil ?_
        refine st_tn ?_
        refine w_seq ?_
        have hUd := sta_up2 S []
        have hgU := hg.sta []
        generalize staO S [] = U at hUd hgU hp64 ⊢
        have hcnt := hgU.cnt
        have hlo : listO U = keysOf U.fs := by unfold listO; rw [if_neg (by simp [hUd])]
        have hll : (listO U).length = U.fs.length := by rw [hlo, keysOf, List.length_map]
        refine w_region ?_
        refine wl_det rfl rfl rfl (op_move rfl) ?_
        refine wl_op [] rfl rfl rfl rfl (op_fn Try.func27 rfl rfl rfl (list_any (s := U) (m := m9) 66 hgU hp64 (celD 601 rfl) (Mr.lab 602 rfl))) ?_
        rintro _ _ ⟨a66, c66, rfl, rfl⟩
        refine wl_det rfl rfl rfl (op_assign rfl) ?_
        refine wl_nil ?_
        refine st_tn ?_
        refine w_seq ?_
        refine w_region ?_
        refine wl_det rfl rfl rfl (op_move rfl) ?_
        refine wl_det rfl rfl rfl (op_move rfl) ?_
        refine wl_det rfl rfl rfl (op_lenT rfl tS48s (Sl.ent (Sl.lab 66 rfl (by unfold maxLen; omega)))) ?_
        refine wl_op [601] rfl rfl rfl rfl (op_fn Try.func19 rfl rfl rfl (limit_any U _)) ?_
        rintro _ _ ⟨rfl, rfl⟩
        refine wl_nil ?_
        refine st_tn ?_
        refine w_seq ?_
        rw [hll, ← mid0]
        refine w_region ?_
        refine wl_det rfl rfl rfl (op_assign rfl) ?_
        refine wl_nil ?_
        refine st_tn ?_
        refine w_seq ?_
        refine w_seq ?_
        refine w_region ?_
        refine wl_det rfl rfl rfl (op_assign rfl) ?_
        refine wl_nil ?_
        refine st_tn ?_
        refine w_block ?_
        refine w_emp 12 (slO_nil 9 1) ?_
        refine w_loopQ (X := List (List UInt8) × Option Addr × Nat × Nat × DskM.St × DskM.Files) (fun z => z.2.2.2.1 ≤ U.fs.length ∧ z.2.2.2.2.1 = midS U z.2.2.2.1 ∧ DskM.Good z.2.2.2.2.1 ∧ z.2.2.2.2.2.Perm z.2.2.2.2.1.fs ∧ z.1 = (U.fs.take z.2.2.2.1).map fun p => p.2.data) (fun z => [(12, .slice (z.2.1) (z.1).length (z.2.2.1)), (13, .int .i64 (z.2.2.2.1))]) (fun z => [(12, slW 9 encT 1 (.slice (z.2.1) (z.1).length (z.2.2.1)) (z.1)), (601, cel b9 (cellD (z.2.2.2.2.1) m9) 65), (602, mp KL encF m9 (z.2.2.2.2.2))]) (fun z => U.fs.length - z.2.2.2.1) (([], none, 0, 0, midS U 0, l64)) [(2, _), (7, _), (11, _)] [(603, _), (604, _), (66, _)] [12, 601, 602, 603, 604, 66] rfl (rfl) (.cons rfl (.cons rfl (.nil _))) (.cons rfl (.cons rfl (.cons rfl (.nil _)))) (by
            try dsimp only
            exact ⟨Nat.zero_le _, rfl, by rw [mid0]; exact hgU.lim_ (by omega), by rw [mid0]; exact hp64, by simp⟩) ?_
        rintro ⟨V, a_V, c_V, j, T, l_T⟩ ⟨hj, hT, hgT, hpT, hV⟩
        refine w_norm2 (by dsimp only [List.cons_append, List.nil_append]) (by dsimp only [List.cons_append, List.nil_append]) ?_
        try dsimp only at hj hT hgT hpT hV ⊢
        refine w_seq ?_
        refine w_seq ?_
        refine w_region ?_
        refine wl_det rfl rfl rfl (op_move rfl) ?_
        refine wl_det rfl rfl rfl (op_move rfl) ?_
        refine wl_det rfl rfl rfl (op_lenT rfl tS48s (Sl.ent (Sl.lab 66 rfl (by unfold maxLen; omega)))) ?_
        refine wl_det rfl rfl rfl (op_lss rfl rfl) ?_
        refine wl_nil ?_
        refine st_tn ?_
        refine w_cond_d rfl (fun hc74 => ?_) (fun hc74 => ?_)
        · -- c74.t
          obtain ⟨p, hx⟩ := getE (l := U.fs) (i := j) (by omega)
          have hpm := List.mem_of_getElem? hx
          have hpn := hgU.nam p hpm
          have hnl := name_len hgU p hpm
          have hk : (listO U)[j]? = some p.1 := by rw [hlo, keysOf, List.getElem?_map, hx]; rfl
          have hr1 : readO T p.1 false = (p.2.data, 0) := by rw [hT]; exact read_mid hgU.inc hUd hpn hx
          have hs1 : synO T p.1 = (0, midS U (j + 1)) := by rw [hT]; exact mid_sync hgU.inc hUd hpn hx
          have hVl : V.length = j := by rw [hV, List.length_map, List.length_take]; omega
          refine w_skip ?_
          refine st_tn ?_
          refine w_seq ?_
          refine w_block ?_
          refine w_seq ?_
          refine w_region ?_
          refine wl_det rfl rfl rfl (op_move rfl) ?_
          refine wl_det rfl rfl rfl (op_move rfl) ?_
          refine wl_det rfl rfl rfl (op_move rfl) ?_
          refine wl_det rfl rfl rfl (op_idx rfl rfl tS48s (Sl.ent (Sl.lab 66 rfl (by unfold maxLen; omega))) (by omega)) ?_
          refine wl_det rfl rfl rfl (op_ldx rfl tO9s (Sl.lab 66 rfl (by unfold maxLen; omega)) (by assumption) (by rfl)) ?_
          refine wl_det rfl rfl rfl (op_fn Try.func28 rfl rfl rfl (read_to (s := T) (m := m9) hr1 hgT hpT hnl (celD 601 rfl) (Mr.lab 602 rfl))) ?_
          refine wl_det rfl rfl rfl (op_move rfl) ?_
          refine wl_det rfl rfl rfl (op_extract rfl rfl) ?_
          refine wl_det rfl rfl rfl (op_extract rfl rfl) ?_
          refine wl_det rfl rfl rfl (op_assign rfl) ?_
          refine wl_det rfl rfl rfl (op_assign rfl) ?_
          refine wl_nil ?_
          refine st_tn ?_
          refine w_seq ?_
          refine w_seq ?_
          refine w_region ?_
          refine wl_det rfl rfl rfl (op_move rfl) ?_
          refine wl_det rfl rfl rfl (op_val (v' := .bool false) (by simp) (op_neq rfl rfl)) ?_
          refine wl_det rfl rfl rfl (op_move rfl) ?_
          refine wl_wanted_det rfl rfl rfl rfl rfl rfl rfl (op_move rfl) ?_
          refine wl_wanted_det rfl rfl rfl rfl rfl rfl rfl (op_move rfl) ?_
          refine wl_wanted_det rfl rfl rfl rfl rfl rfl rfl (op_move rfl) ?_
          refine wl_wanted_det rfl rfl rfl rfl rfl rfl rfl (op_idx rfl rfl tS48s (Sl.ent (Sl.lab 66 rfl (by unfold maxLen; omega))) (by omega)) ?_
          refine wl_wanted_det rfl rfl rfl rfl rfl rfl rfl (op_ldx rfl tO9s (Sl.lab 66 rfl (by unfold maxLen; omega)) (by assumption) (by rfl)) ?_
          refine wl_wanted [601, 602] rfl rfl rfl rfl rfl rfl rfl rfl (op_fn Try.func21 rfl rfl rfl (syn_to hs1 hgT hpT hnl)) ?_
          rintro _ _ ⟨l94, hp94, rfl, rfl⟩
          refine wl_wanted_det rfl rfl rfl rfl rfl rfl rfl (op_val (v' := .bool false) (by simp) (op_neq rfl rfl)) ?_
          refine wl_det rfl rfl rfl (op_pick_f rfl rfl) ?_
          refine wl_nil ?_
          refine st_tn ?_
          refine w_cond_f (rfl) ?_
          refine w_skip ?_
          refine st_tn ?_
          refine w_region ?_
          refine wl_det rfl rfl rfl (op_move rfl) ?_
          refine wl_det rfl rfl rfl (op_move rfl) ?_
          refine wl_op [] rfl rfl rfl rfl (op_buildSlice (enc := encT) (l := [p.2.data]) (lab := 99) tL48_1s rfl rfl (fun _ => rfl) rfl) ?_
          rintro _ _ ⟨a99, c99, rfl, rfl⟩
          refine wl_op [12] rfl rfl rfl rfl (op_append (lab := 12) (lab' := 100) rfl rfl tP48s enc1T (Sl.lab 99 rfl (by simp [maxLen])) (by simp; omega) (by simp; omega)) ?_
          rintro _ _ ⟨a100, c100, rfl, rfl⟩
          refine wl_det rfl rfl rfl (op_assign rfl) ?_
          refine wl_nil ?_
          refine st_bn ?_
          refine st_tn ?_
          refine w_region ?_
          refine wl_det rfl rfl rfl (op_move rfl) ?_
          refine wl_det rfl rfl rfl (op_add' rfl rfl (by omega)) ?_
          refine wl_det rfl rfl rfl (op_assign rfl) ?_
          refine wl_nil ?_
          refine st_roundQ (x := (V, a_V, c_V, j, T, l_T)) ((V ++ [p.2.data], _, _, j + 1, midS U (j + 1), l94)) [100, 601, 602, 603, 604, 66] rfl (rfl) (.cons rfl (.cons rfl (.nil _))) (.cons rfl (.cons rfl (.cons rfl (.nil _)))) (by
              try dsimp only
              exact ⟨by omega, rfl, by have := hgT.syn_ p.1; rw [hT, mid_sync hgU.inc hUd hpn hx] at this; exact this, hp94, by rw [hV, take_snoc hx, List.map_append]; rfl⟩) (by
              try dsimp only
              omega) 
        · -- c74.f
          refine w_exit ?_
          refine st_te ?_
          refine st_te ?_
          refine st_be ?_
          refine st_tn ?_
          refine w_seq ?_
          have hVl : V.length = U.fs.length := by rw [hV, List.length_map, List.length_take]; omega
          have hTf : T.fs = U.fs.map syncd := by rw [hT]; exact mid_end (by omega)
          have hgc := hgT.cra
          refine w_region ?_
          refine wl_det rfl rfl rfl (op_move rfl) ?_
          refine wl_op [601] rfl rfl rfl rfl (op_fn Try.func25 rfl rfl rfl (crash_any T)) ?_
          rintro _ _ ⟨rfl, rfl⟩
          refine wl_nil ?_
          refine st_tn ?_
          refine w_seq ?_
          refine w_region ?_
          refine wl_det rfl rfl rfl (op_move rfl) ?_
          refine wl_det rfl rfl rfl (op_move rfl) ?_
          refine wl_op [601, 602] rfl rfl rfl rfl (op_fn Try.func26 rfl rfl rfl (sta_to (s := craO T) (sc := sc) rfl hgc hpT (Sl.app hsc _))) ?_
          rintro _ _ ⟨l105, hp105, rfl, rfl⟩
          refine wl_nil ?_
          refine st_tn ?_
          refine w_seq ?_
          have hgW := hgc.sta sc
          obtain ⟨W', hW⟩ : ∃ U, staO (craO T) sc = U := ⟨_, rfl⟩
          rw [hW] at hgW hp105 ⊢
          have hWd : W'.down = false := by rw [← hW]; exact rfl
          have hWf : W'.fs = U.fs.map syncd := by rw [← hW, ← start_synced U.fs sc, ← hTf]; rfl
          have hlo2 : listO W' = keysOf U.fs := by unfold listO; rw [if_neg (by simp [hWd]), hWf, keys_syncd]
          have hll2 : (listO W').length = U.fs.length := by rw [hlo2, keysOf, List.length_map]
          refine w_region ?_
          refine wl_det rfl rfl rfl (op_move rfl) ?_
          refine wl_op [] rfl rfl rfl rfl (op_fn Try.func27 rfl rfl rfl (list_any (s := W') (m := m9) 107 hgW hp105 (celD 601 rfl) (Mr.lab 602 rfl))) ?_
          rintro _ _ ⟨a107, c107, rfl, rfl⟩
          refine wl_det rfl rfl rfl (op_assign rfl) ?_
          refine wl_nil ?_
          refine st_tn ?_
          refine w_seq ?_
          refine w_seq ?_
          refine w_region ?_
          refine wl_det rfl rfl rfl (op_move rfl) ?_
          refine wl_det rfl rfl rfl (op_lenT rfl tS48s (Sl.ent (Sl.lab 107 rfl (by unfold maxLen; omega)))) ?_
          refine wl_det rfl rfl rfl (op_move rfl) ?_
          refine wl_det rfl rfl rfl (op_lenT rfl tS48s (Sl.ent (Sl.lab 66 rfl (by unfold maxLen; omega)))) ?_
          refine wl_det rfl rfl rfl (op_val (v' := .bool false) (by simp; omega) (op_neq rfl rfl)) ?_
          refine wl_nil ?_
          refine st_tn ?_
          refine w_cond_f (rfl) ?_
          refine w_skip ?_
          refine st_tn ?_
          refine w_seq ?_
          refine w_seq ?_
          refine w_region ?_
          refine wl_det rfl rfl rfl (op_assign rfl) ?_
          refine wl_nil ?_
          refine st_tn ?_
          refine w_block ?_
          refine w_loopQ (X := Nat) (fun z => z ≤ U.fs.length) (fun z => [(17, .int .i64 (z))]) (fun _ => []) (fun z => U.fs.length - z) (0) [(7, _), (11, _), (12, _), (16, _)] [(12, _), (603, _), (604, _), (66, _), (601, _), (602, _), (107, _)] [12, 603, 604, 66, 601, 602, 107] rfl (rfl) (.cons rfl (.nil _)) (.cons rfl (.cons rfl (.cons rfl (.cons rfl (.nil _))))) (by
              try dsimp only
              exact Nat.zero_le _) ?_
          rintro k hk0
          refine w_norm2 (by dsimp only [List.cons_append, List.nil_append]) (by dsimp only [List.cons_append, List.nil_append]) ?_
          try dsimp only at hk0 ⊢
          refine w_seq ?_
          refine w_seq ?_
          refine w_region ?_
          refine wl_det rfl rfl rfl (op_move rfl) ?_
          refine wl_det rfl rfl rfl (op_move rfl) ?_
          refine wl_det rfl rfl rfl (op_lenT rfl tS48s (Sl.ent (Sl.lab 66 rfl (by unfold maxLen; omega)))) ?_
          refine wl_det rfl rfl rfl (op_lss rfl rfl) ?_
          refine wl_nil ?_
          refine st_tn ?_
          refine w_cond_d rfl (fun hc116 => ?_) (fun hc116 => ?_)
          · -- c116.t
            obtain ⟨p, hx⟩ := getE (l := U.fs) (i := k) (by omega)
            have hpm := List.mem_of_getElem? hx
            have hnl := name_len hgU p hpm
            have hk : (listO U)[k]? = some p.1 := by rw [hlo, keysOf, List.getElem?_map, hx]; rfl
            have hk2 : (listO W')[k]? = some p.1 := by rw [hlo2, keysOf, List.getElem?_map, hx]; rfl
            have hk3 : V[k]? = some p.2.data := by rw [hV, take_all (by omega), List.getElem?_map, hx]; rfl
            have hqm : (p.1, (syncd p).2) ∈ W'.fs := by rw [hWf]; exact List.mem_map.2 ⟨p, hpm, rfl⟩
            have hr2 : readO W' p.1 false = (p.2.data, 0) := read_at hgW hWd hqm false
            refine w_skip ?_
            refine st_tn ?_
            refine w_seq ?_
            refine w_block ?_
            refine w_seq ?_
            refine w_region ?_
            refine wl_det rfl rfl rfl (op_move rfl) ?_
            refine wl_det rfl rfl rfl (op_move rfl) ?_
            refine wl_det rfl rfl rfl (op_move rfl) ?_
            refine wl_det rfl rfl rfl (op_idx rfl rfl tS48s (Sl.ent (Sl.lab 66 rfl (by unfold maxLen; omega))) (by omega)) ?_
            refine wl_det rfl rfl rfl (op_ldx rfl tO9s (Sl.lab 66 rfl (by unfold maxLen; omega)) (by assumption) (by rfl)) ?_
            refine wl_det rfl rfl rfl (op_fn Try.func28 rfl rfl rfl (read_to (s := W') (m := m9) hr2 hgW hp105 hnl (celD 601 rfl) (Mr.lab 602 rfl))) ?_
            refine wl_det rfl rfl rfl (op_move rfl) ?_
            refine wl_det rfl rfl rfl (op_extract rfl rfl) ?_
            refine wl_det rfl rfl rfl (op_extract rfl rfl) ?_
            refine wl_det rfl rfl rfl (op_assign rfl) ?_
            refine wl_det rfl rfl rfl (op_assign rfl) ?_
            refine wl_nil ?_
            refine st_tn ?_
            refine w_seq ?_
            refine w_drawW (fun β => [⟨128, [], [], [], noW (_), false, [], []⟩, ⟨129, [0], [], [], noW (_), false, [], []⟩, ⟨130, [1], [], [], noW (_), false, [], []⟩, ⟨131, [], [], [], noW (_), false, [], []⟩, ⟨132, [], [], [], noW (_), false, [], []⟩, ⟨133, [3, 4], [], [], noW (_), false, [], []⟩, ⟨134, [5], [], [], noW (_), false, [], []⟩, ⟨135, [], [], [], noW (_), false, [], []⟩, ⟨136, [], [], [], noW (_), false, [], []⟩, ⟨137, [7, 8], [], [], noW (_), false, [], []⟩, ⟨138, [9], [], [], noW (_), false, [], []⟩, ⟨139, [6, 10], [], [], noW (_), false, [], []⟩, ⟨140, [2, 11], [], [], noW (_), false, [], []⟩, ⟨141, [12], [], [], noW (_), false, [], []⟩, ⟨142, [], [], [], noW (_), false, [], []⟩, ⟨143, [], [], [], noW (_), false, [], []⟩, ⟨144, [], [], [], noW (_), false, [], []⟩, ⟨145, [15, 16], [], [], noW (_), false, [], []⟩, ⟨146, [17], [], [], noW (_), false, [], []⟩, ⟨147, [14, 18], [], [], noW (_), false, [], []⟩, ⟨148, [13, 19], [], [], noW (_), false, [], []⟩]) [] [19, 16, 17, 11, 18, 12] [⟨128, [], [], false, [], []⟩, ⟨129, [0], [], false, [], []⟩, ⟨130, [1], [], false, [], []⟩, ⟨131, [], [], false, [], []⟩, ⟨132, [], [], false, [], []⟩, ⟨133, [3, 4], [], false, [], []⟩, ⟨134, [5], [], false, [], []⟩, ⟨135, [], [], false, [], []⟩, ⟨136, [], [], false, [], []⟩, ⟨137, [7, 8], [], false, [], []⟩, ⟨138, [9], [], false, [], []⟩, ⟨139, [6, 10], [], false, [], []⟩, ⟨140, [2, 11], [], false, [], []⟩, ⟨141, [12], [], false, [], []⟩, ⟨142, [], [], false, [], []⟩, ⟨143, [], [], false, [], []⟩, ⟨144, [], [], false, [], []⟩, ⟨145, [15, 16], [], false, [], []⟩, ⟨146, [17], [], false, [], []⟩, ⟨147, [14, 18], [], false, [], []⟩, ⟨148, [13, 19], [], false, [], []⟩] [[], [], [], [], [], [], [], [], [], [], [], [], [], [], [], [], [], [], [], [], []] [[], [], [], [], [], [], [], [], [], [], [], [], [], [], [], [], [], [], [], [], []] tMixs (fun _ => by rfl) (fun _ => by rfl) (by kernel_rfl) (by kernel_rfl) (by rfl) (by rfl)
                (fun β => ⟨.p rfl (by intro X; exact op_move rfl),
                ⟨.p rfl (by intro X; rintro _ _ ⟨rfl, rfl⟩; exact op_val (v' := .bool false) (by simp) (op_neq rfl rfl)),
                ⟨.p rfl (by intro X; rintro _ _ ⟨rfl, rfl⟩; exact op_move rfl),
                ⟨.w rfl rfl rfl (by rintro _ _ ⟨rfl, rfl⟩; rfl) (by intro X; exact op_move rfl),
                ⟨.w rfl rfl rfl (by rintro _ _ ⟨rfl, rfl⟩; rfl) (by intro X; exact op_move rfl),
                ⟨.w rfl rfl rfl (by rintro _ _ ⟨rfl, rfl⟩; rfl) (by intro X; rintro _ _ ⟨rfl, rfl⟩ _ _ ⟨rfl, rfl⟩; exact op_idx rfl rfl tS48s (Sl.ent (Sl.lab 107 rfl (by unfold maxLen; omega))) (by omega)),
                ⟨.w rfl rfl rfl (by rintro _ _ ⟨rfl, rfl⟩; rfl) (by intro X; rintro _ _ ⟨rfl, rfl⟩; exact op_ldx rfl tO9s (Sl.lab 107 rfl (by unfold maxLen; omega)) (by assumption) (by rfl)),
                ⟨.w rfl rfl rfl (by rintro _ _ ⟨rfl, rfl⟩; rfl) (by intro X; exact op_move rfl),
                ⟨.w rfl rfl rfl (by rintro _ _ ⟨rfl, rfl⟩; rfl) (by intro X; exact op_move rfl),
                ⟨.w rfl rfl rfl (by rintro _ _ ⟨rfl, rfl⟩; rfl) (by intro X; rintro _ _ ⟨rfl, rfl⟩ _ _ ⟨rfl, rfl⟩; exact op_idx rfl rfl tS48s (Sl.ent (Sl.lab 66 rfl (by unfold maxLen; omega))) (by omega)),
                ⟨.w rfl rfl rfl (by rintro _ _ ⟨rfl, rfl⟩; rfl) (by intro X; rintro _ _ ⟨rfl, rfl⟩; exact op_ldx rfl tO9s (Sl.lab 66 rfl (by unfold maxLen; omega)) (by assumption) (by rfl)),
                ⟨.w rfl rfl rfl (by rintro _ _ ⟨rfl, rfl⟩; rfl) (by intro X; rintro _ _ ⟨rfl, rfl⟩ _ _ ⟨rfl, rfl⟩; exact op_val (v' := .bool false) (by simp) (op_neBs rfl rfl)),
                ⟨.p rfl (by intro X; rintro _ _ ⟨rfl, rfl⟩ _ _ ⟨rfl, rfl⟩; exact op_pick_f rfl rfl),
                ⟨.p rfl (by intro X; rintro _ _ ⟨rfl, rfl⟩; exact op_move rfl),
                ⟨.w rfl rfl rfl (by rintro _ _ ⟨rfl, rfl⟩; rfl) (by intro X; exact op_move rfl),
                ⟨.w rfl rfl rfl (by rintro _ _ ⟨rfl, rfl⟩; rfl) (by intro X; exact op_move rfl),
                ⟨.w rfl rfl rfl (by rintro _ _ ⟨rfl, rfl⟩; rfl) (by intro X; exact op_move rfl),
                ⟨.w rfl rfl rfl (by rintro _ _ ⟨rfl, rfl⟩; rfl) (by intro X; rintro _ _ ⟨rfl, rfl⟩ _ _ ⟨rfl, rfl⟩; exact op_idx rfl rfl tS48s (Sl.ent (Sl.lab 12 rfl (by unfold maxLen; omega))) (by omega)),
                ⟨.w rfl rfl rfl (by rintro _ _ ⟨rfl, rfl⟩; rfl) (by intro X; rintro _ _ ⟨rfl, rfl⟩; exact op_ldx rfl tO9s (Sl.lab 12 rfl (by unfold maxLen; omega)) (by assumption) (by rfl)),
                ⟨.w rfl rfl rfl (by rintro _ _ ⟨rfl, rfl⟩; rfl) (by intro X; rintro _ _ ⟨rfl, rfl⟩ _ _ ⟨rfl, rfl⟩; exact op_val (v' := .bool false) (by simp) (op_neBs rfl rfl)),
                ⟨.p rfl (by intro X; rintro _ _ ⟨rfl, rfl⟩ _ _ ⟨rfl, rfl⟩; exact op_pick_f rfl rfl),
                trivial⟩⟩⟩⟩⟩⟩⟩⟩⟩⟩⟩⟩⟩⟩⟩⟩⟩⟩⟩⟩⟩)
                (fun β β' => ⟨fun _ => by rfl, ⟨fun _ => by rfl, ⟨fun _ => by rfl, ⟨fun _ => by rfl, ⟨fun _ => by rfl, ⟨fun _ => by rfl, ⟨fun _ => by rfl, ⟨fun _ => by rfl, ⟨fun _ => by rfl, ⟨fun _ => by rfl, ⟨fun _ => by rfl, ⟨fun _ => by rfl, ⟨fun _ => by rfl, ⟨fun _ => by rfl, ⟨fun _ => by rfl, ⟨fun _ => by rfl, ⟨fun _ => by rfl, ⟨fun _ => by rfl, ⟨fun _ => by rfl, ⟨fun _ => by rfl, ⟨fun _ => by rfl, trivial⟩⟩⟩⟩⟩⟩⟩⟩⟩⟩⟩⟩⟩⟩⟩⟩⟩⟩⟩⟩⟩) ?_
            intro β
            rintro _ _ ⟨rfl, rfl⟩ _ _ ⟨rfl, rfl⟩ _ _ ⟨rfl, rfl⟩ _ _ ⟨rfl, rfl⟩ _ _ ⟨rfl, rfl⟩ _ _ ⟨rfl, rfl⟩ _ _ ⟨rfl, rfl⟩ _ _ ⟨rfl, rfl⟩ _ _ ⟨rfl, rfl⟩ _ _ ⟨rfl, rfl⟩ _ _ ⟨rfl, rfl⟩ _ _ ⟨rfl, rfl⟩ _ _ ⟨rfl, rfl⟩ _ _ ⟨rfl, rfl⟩ _ _ ⟨rfl, rfl⟩ _ _ ⟨rfl, rfl⟩ _ _ ⟨rfl, rfl⟩ _ _ ⟨rfl, rfl⟩ _ _ ⟨rfl, rfl⟩ _ _ ⟨rfl, rfl⟩ _ _ ⟨rfl, rfl⟩
            refine wl_norm (e' := [(7, _), (11, _), (12, _), (16, _), (17, _), (148, _)]) (.cons rfl (.cons rfl (.cons rfl (.cons rfl (.cons rfl (.cons rfl (.nil _))))))) (by dsimp only [cond_false, cond_true, List.nil_append, List.cons_append]) ?_
            refine wl_nil ?_
            refine st_tn ?_
            refine w_cond_f (rfl) ?_
            refine w_skip ?_
            refine st_bn ?_
            refine st_tn ?_
            refine w_region ?_
            refine wl_det rfl rfl rfl (op_move rfl) ?_
            refine wl_det rfl rfl rfl (op_add' rfl rfl (by omega)) ?_
            refine wl_det rfl rfl rfl (op_assign rfl) ?_
            refine wl_nil ?_
            refine st_roundQ (x := k) (k + 1) [12, 603, 604, 66, 601, 602, 107] rfl (rfl) (.cons rfl (.nil _)) (.cons rfl (.cons rfl (.cons rfl (.cons rfl (.nil _))))) (by
                try dsimp only
                omega) (by
                try dsimp only
                omega) 
          · -- c116.f
            refine w_exit ?_
            refine st_te ?_
            refine st_te ?_
            refine st_be ?_
            refine st_tn ?_
            refine w_seq ?_
            refine w_region ?_
            refine wl_det rfl rfl rfl (op_assign rfl) ?_
            refine wl_nil ?_
            refine st_tn ?_
            refine w_ret ?_
            refine st_ret (vs := [_]) [] Try.results7 ⟨rfl, trivial⟩ rfl ?_
            refine ⟨_, rfl, ?_⟩
            exact ⟨rfl, rfl⟩
    · -- 50 is False
      refine wl_unwanted rfl rfl rfl rfl rfl rfl rfl rfl ?_
      refine wl_unwanted rfl rfl rfl rfl rfl rfl rfl rfl ?_
      refine wl_det rfl rfl rfl (op_pick_f rfl rfl) ?_
      refine wl_nil ?_
      refine st_tn ?_
      refine w_cond_f (rfl) ?_
      refine w_exit ?_
      refine st_te ?_
      refine st_te ?_
      refine st_be ?_
      refine st_tn ?_
      refine w_seq ?_
      refine w_region ?_
      refine wl_det rfl rfl rfl (op_move rfl) ?_
      refine wl_op [601, 602] rfl rfl rfl rfl (op_fn Try.func26 rfl rfl rfl (sta_to (s := S) (sc := []) rfl hg hp Sl.nilv)) ?_
      rintro _ _ ⟨l64, hp64, rfl, rfl⟩
      refine wl_nil ?_
      refine st_tn ?_
      refine w_seq ?_
      have hUd := sta_up2 S []
      have hgU := hg.sta []
      generalize staO S [] = U at hUd hgU hp64 ⊢
      have hcnt := hgU.cnt
      have hlo : listO U = keysOf U.fs := by unfold listO; rw [if_neg (by simp [hUd])]
      have hll : (listO U).length = U.fs.length := by rw [hlo, keysOf, List.length_map]
      refine w_region ?_
      refine wl_det rfl rfl rfl (op_move rfl) ?_
      refine wl_op [] rfl rfl rfl rfl (op_fn Try.func27 rfl rfl rfl (list_any (s := U) (m := m9) 66 hgU hp64 (celD 601 rfl) (Mr.lab 602 rfl))) ?_
      rintro _ _ ⟨a66, c66, rfl, rfl⟩
      refine wl_det rfl rfl rfl (op_assign rfl) ?_
      refine wl_nil ?_
      refine st_tn ?_
      refine w_seq ?_
      refine w_region ?_
      refine wl_det rfl rfl rfl (op_move rfl) ?_
      refine wl_det rfl rfl rfl (op_move rfl) ?_
      refine wl_det rfl rfl rfl (op_lenT rfl tS48s (Sl.ent (Sl.lab 66 rfl (by unfold maxLen; omega)))) ?_
      refine wl_op [601] rfl rfl rfl rfl (op_fn Try.func19 rfl rfl rfl (limit_any U _)) ?_
      rintro _ _ ⟨rfl, rfl⟩
      refine wl_nil ?_
      refine st_tn ?_
      refine w_seq ?_
      rw [hll, ← mid0]
      refine w_region ?_
      refine wl_det rfl rfl rfl (op_assign rfl) ?_
      refine wl_nil ?_
      refine st_tn ?_
      refine w_seq ?_
      refine w_seq ?_
      refine w_region ?_
      refine wl_det rfl rfl rfl (op_assign rfl) ?_
      refine wl_nil ?_
      refine st_tn ?_
      refine w_block ?_
      refine w_emp 12 (slO_nil 9 1) ?_
      refine w_loopQ (X := List (List UInt8) × Option Addr × Nat × Nat × DskM.St × DskM.Files) (fun z => z.2.2.2.1 ≤ U.fs.length ∧ z.2.2.2.2.1 = midS U z.2.2.2.1 ∧ DskM.Good z.2.2.2.2.1 ∧ z.2.2.2.2.2.Perm z.2.2.2.2.1.fs ∧ z.1 = (U.fs.take z.2.2.2.1).map fun p => p.2.data) (fun z => [(12, .slice (z.2.1) (z.1).length (z.2.2.1)), (13, .int .i64 (z.2.2.2.1))]) (fun z => [(12, slW 9 encT 1 (.slice (z.2.1) (z.1).length (z.2.2.1)) (z.1)), (601, cel b9 (cellD (z.2.2.2.2.1) m9) 65), (602, mp KL encF m9 (z.2.2.2.2.2))]) (fun z => U.fs.length - z.2.2.2.1) (([], none, 0, 0, midS U 0, l64)) [(2, _), (7, _), (11, _)] [(603, _), (604, _), (66, _)] [12, 601, 602, 603, 604, 66] rfl (rfl) (.cons rfl (.cons rfl (.nil _))) (.cons rfl (.cons rfl (.cons rfl (.nil _)))) (by
          try dsimp only
          exact ⟨Nat.zero_le _, rfl, by rw [mid0]; exact hgU.lim_ (by omega), by rw [mid0]; exact hp64, by simp⟩) ?_
      rintro ⟨V, a_V, c_V, j, T, l_T⟩ ⟨hj, hT, hgT, hpT, hV⟩
      refine w_norm2 (by dsimp only [List.cons_append, List.nil_append]) (by dsimp only [List.cons_append, List.nil_append]) ?_
      try dsimp only at hj hT hgT hpT hV ⊢
      refine w_seq ?_
      refine w_seq ?_
      refine w_region ?_
      refine wl_det rfl rfl rfl (op_move rfl) ?_
      refine wl_det rfl rfl rfl (op_move rfl) ?_
      refine wl_det rfl rfl rfl (op_lenT rfl tS48s (Sl.ent (Sl.lab 66 rfl (by unfold maxLen; omega)))) ?_
      refine wl_det rfl rfl rfl (op_lss rfl rfl) ?_
      refine wl_nil ?_
      refine st_tn ?_
      refine w_cond_d rfl (fun hc74 => ?_) (fun hc74 => ?_)
      · -- c74.t
        obtain ⟨p, hx⟩ := getE (l := U.fs) (i := j) (by omega)
        have hpm := List.mem_of_getElem? hx
        have hpn := hgU.nam p hpm
        have hnl := name_len hgU p hpm
        have hk : (listO U)[j]? = some p.1 := by rw [hlo, keysOf, List.getElem?_map, hx]; rfl
        have hr1 : readO T p.1 false = (p.2.data, 0) := by rw [hT]; exact read_mid hgU.inc hUd hpn hx
        have hs1 : synO T p.1 = (0, midS U (j + 1)) := by rw [hT]; exact mid_sync hgU.inc hUd hpn hx
        have hVl : V.length = j := by rw [hV, List.length_map, List.length_take]; omega
        refine w_skip ?_
        refine st_tn ?_
        refine w_seq ?_
        refine w_block ?_
        refine w_seq ?_
        refine w_region ?_
        refine wl_det rfl rfl rfl (op_move rfl) ?_
        refine wl_det rfl rfl rfl (op_move rfl) ?_
        refine wl_det rfl rfl rfl (op_move rfl) ?_
        refine wl_det rfl rfl rfl (op_idx rfl rfl tS48s (Sl.ent (Sl.lab 66 rfl (by unfold maxLen; omega))) (by omega)) ?_
        refine wl_det rfl rfl rfl (op_ldx rfl tO9s (Sl.lab 66 rfl (by unfold maxLen; omega)) (by assumption) (by rfl)) ?_
        refine wl_det rfl rfl rfl (op_fn Try.func28 rfl rfl rfl (read_to (s := T) (m := m9) hr1 hgT hpT hnl (celD 601 rfl) (Mr.lab 602 rfl))) ?_
        refine wl_det rfl rfl rfl (op_move rfl) ?_
        refine wl_det rfl rfl rfl (op_extract rfl rfl) ?_
        refine wl_det rfl rfl rfl (op_extract rfl rfl) ?_
        refine wl_det rfl rfl rfl (op_assign rfl) ?_
        refine wl_det rfl rfl rfl (op_assign rfl) ?_
        refine wl_nil ?_
        refine st_tn ?_
        refine w_seq ?_
        refine w_seq ?_
        refine w_region ?_
        refine wl_det rfl rfl rfl (op_move rfl) ?_
        refine wl_det rfl rfl rfl (op_val (v' := .bool false) (by simp) (op_neq rfl rfl)) ?_
        refine wl_det rfl rfl rfl (op_move rfl) ?_
        refine wl_wanted_det rfl rfl rfl rfl rfl rfl rfl (op_move rfl) ?_
        refine wl_wanted_det rfl rfl rfl rfl rfl rfl rfl (op_move rfl) ?_
        refine wl_wanted_det rfl rfl rfl rfl rfl rfl rfl (op_move rfl) ?_
        refine wl_wanted_det rfl rfl rfl rfl rfl rfl rfl (op_idx rfl rfl tS48s (Sl.ent (Sl.lab 66 rfl (by unfold maxLen; omega))) (by omega)) ?_
        refine wl_wanted_det rfl rfl rfl rfl rfl rfl rfl (op_ldx rfl tO9s (Sl.lab 66 rfl (by unfold maxLen; omega)) (by assumption) (by rfl)) ?_
        refine wl_wanted [601, 602] rfl rfl rfl rfl rfl rfl rfl rfl (op_fn Try.func21 rfl rfl rfl (syn_to hs1 hgT hpT hnl)) ?_
        rintro _ _ ⟨l94, hp94, rfl, rfl⟩
        refine wl_wanted_det rfl rfl rfl rfl rfl rfl rfl (op_val (v' := .bool false) (by simp) (op_neq rfl rfl)) ?_
        refine wl_det rfl rfl rfl (op_pick_f rfl rfl) ?_
        refine wl_nil ?_
        refine st_tn ?_
        refine w_cond_f (rfl) ?_
        refine w_skip ?_
        refine st_tn ?_
        refine w_region ?_
        refine wl_det rfl rfl rfl (op_move rfl) ?_
        refine wl_det rfl rfl rfl (op_move rfl) ?_
        refine wl_op [] rfl rfl rfl rfl (op_buildSlice (enc := encT) (l := [p.2.data]) (lab := 99) tL48_1s rfl rfl (fun _ => rfl) rfl) ?_
        rintro _ _ ⟨a99, c99, rfl, rfl⟩
        refine wl_op [12] rfl rfl rfl rfl (op_append (lab := 12) (lab' := 100) rfl rfl tP48s enc1T (Sl.lab 99 rfl (by simp [maxLen])) (by simp; omega) (by simp; omega)) ?_
        rintro _ _ ⟨a100, c100, rfl, rfl⟩
        refine wl_det rfl rfl rfl (op_assign rfl) ?_
        refine wl_nil ?_
        refine st_bn ?_
        refine st_tn ?_
        refine w_region ?_
        refine wl_det rfl rfl rfl (op_move rfl) ?_
        refine wl_det rfl rfl rfl (op_add' rfl rfl (by omega)) ?_
        refine wl_det rfl rfl rfl (op_assign rfl) ?_
        refine wl_nil ?_
        refine st_roundQ (x := (V, a_V, c_V, j, T, l_T)) ((V ++ [p.2.data], _, _, j + 1, midS U (j + 1), l94)) [100, 601, 602, 603, 604, 66] rfl (rfl) (.cons rfl (.cons rfl (.nil _))) (.cons rfl (.cons rfl (.cons rfl (.nil _)))) (by
            try dsimp only
            exact ⟨by omega, rfl, by have := hgT.syn_ p.1; rw [hT, mid_sync hgU.inc hUd hpn hx] at this; exact this, hp94, by rw [hV, take_snoc hx, List.map_append]; rfl⟩) (by
            try dsimp only
            omega) 
      · -- c74.f
        refine w_exit ?_
        refine st_te ?_
        refine st_te ?_
        refine st_be ?_
        refine st_tn ?_
        refine w_seq ?_
        have hVl : V.length = U.fs.length := by rw [hV, List.length_map, List.length_take]; omega
        have hTf : T.fs = U.fs.map syncd := by rw [hT]; exact mid_end (by omega)
        have hgc := hgT.cra
        refine w_region ?_
        refine wl_det rfl rfl rfl (op_move rfl) ?_
        refine wl_op [601] rfl rfl rfl rfl (op_fn Try.func25 rfl rfl rfl (crash_any T)) ?_
        rintro _ _ ⟨rfl, rfl⟩
        refine wl_nil ?_
        refine st_tn ?_
        refine w_seq ?_
        refine w_region ?_
        refine wl_det rfl rfl rfl (op_move rfl) ?_
        refine wl_det rfl rfl rfl (op_move rfl) ?_
        refine wl_op [601, 602] rfl rfl rfl rfl (op_fn Try.func26 rfl rfl rfl (sta_to (s := craO T) (sc := sc) rfl hgc hpT (Sl.app hsc _))) ?_
        rintro _ _ ⟨l105, hp105, rfl, rfl⟩
        refine wl_nil ?_
        refine st_tn ?_
        refine w_seq ?_
        have hgW := hgc.sta sc
        obtain ⟨W', hW⟩ : ∃ U, staO (craO T) sc = U := ⟨_, rfl⟩
        rw [hW] at hgW hp105 ⊢
        have hWd : W'.down = false := by rw [← hW]; exact rfl
        have hWf : W'.fs = U.fs.map syncd := by rw [← hW, ← start_synced U.fs sc, ← hTf]; rfl
        have hlo2 : listO W' = keysOf U.fs := by unfold listO; rw [if_neg (by simp [hWd]), hWf, keys_syncd]
        have hll2 : (listO W').length = U.fs.length := by rw [hlo2, keysOf, List.length_map]
        refine w_region ?_
        refine wl_det rfl rfl rfl (op_move rfl) ?_
        refine wl_op [] rfl rfl rfl rfl (op_fn Try.func27 rfl rfl rfl (list_any (s := W') (m := m9) 107 hgW hp105 (celD 601 rfl) (Mr.lab 602 rfl))) ?_
        rintro _ _ ⟨a107, c107, rfl, rfl⟩
        refine wl_det rfl rfl rfl (op_assign rfl) ?_
        refine wl_nil ?_
        refine st_tn ?_
        refine w_seq ?_
        refine w_seq ?_
        refine w_region ?_
        refine wl_det rfl rfl rfl (op_move rfl) ?_
        refine wl_det rfl rfl rfl (op_lenT rfl tS48s (Sl.ent (Sl.lab 107 rfl (by unfold maxLen; omega)))) ?_
        refine wl_det rfl rfl rfl (op_move rfl) ?_
        refine wl_det rfl rfl rfl (op_lenT rfl tS48s (Sl.ent (Sl.lab 66 rfl (by unfold maxLen; omega)))) ?_
        refine wl_det rfl rfl rfl (op_val (v' := .bool false) (by simp; omega) (op_neq rfl rfl)) ?_
        refine wl_nil ?_
        refine st_tn ?_
        refine w_cond_f (rfl) ?_
        refine w_skip ?_
        refine st_tn ?_
        refine w_seq ?_
        refine w_seq ?_
        refine w_region ?_
        refine wl_det rfl rfl rfl (op_assign rfl) ?_
        refine wl_nil ?_
        refine st_tn ?_
        refine w_block ?_
        refine w_loopQ (X := Nat) (fun z => z ≤ U.fs.length) (fun z => [(17, .int .i64 (z))]) (fun _ => []) (fun z => U.fs.length - z) (0) [(7, _), (11, _), (12, _), (16, _)] [(12, _), (603, _), (604, _), (66, _), (601, _), (602, _), (107, _)] [12, 603, 604, 66, 601, 602, 107] rfl (rfl) (.cons rfl (.nil _)) (.cons rfl (.cons rfl (.cons rfl (.cons rfl (.nil _))))) (by
            try dsimp only
            exact Nat.zero_le _) ?_
        rintro k hk0
        refine w_norm2 (by dsimp only [List.cons_append, List.nil_append]) (by dsimp only [List.cons_append, List.nil_append]) ?_
        try dsimp only at hk0 ⊢
        refine w_seq ?_
        refine w_seq ?_
        refine w_region ?_
        refine wl_det rfl rfl rfl (op_move rfl) ?_
        refine wl_det rfl rfl rfl (op_move rfl) ?_
        refine wl_det rfl rfl rfl (op_lenT rfl tS48s (Sl.ent (Sl.lab 66 rfl (by unfold maxLen; omega)))) ?_
        refine wl_det rfl rfl rfl (op_lss rfl rfl) ?_
        refine wl_nil ?_
        refine st_tn ?_
        refine w_cond_d rfl (fun hc116 => ?_) (fun hc116 => ?_)
        · -- c116.t
          obtain ⟨p, hx⟩ := getE (l := U.fs) (i := k) (by omega)
          have hpm := List.mem_of_getElem? hx
          have hnl := name_len hgU p hpm
          have hk : (listO U)[k]? = some p.1 := by rw [hlo, keysOf, List.getElem?_map, hx]; rfl
          have hk2 : (listO W')[k]? = some p.1 := by rw [hlo2, keysOf, List.getElem?_map, hx]; rfl
          have hk3 : V[k]? = some p.2.data := by rw [hV, take_all (by omega), List.getElem?_map, hx]; rfl
          have hqm : (p.1, (syncd p).2) ∈ W'.fs := by rw [hWf]; exact List.mem_map.2 ⟨p, hpm, rfl⟩
          have hr2 : readO W' p.1 false = (p.2.data, 0) := read_at hgW hWd hqm false
          refine w_skip ?_
          refine st_tn ?_
          refine w_seq ?_
          refine w_block ?_
          refine w_seq ?_
          refine w_region ?_
          refine wl_det rfl rfl rfl (op_move rfl) ?_
          refine wl_det rfl rfl rfl (op_move rfl) ?_
          refine wl_det rfl rfl rfl (op_move rfl) ?_
          refine wl_det rfl rfl rfl (op_idx rfl rfl tS48s (Sl.ent (Sl.lab 66 rfl (by unfold maxLen; omega))) (by omega)) ?_
          refine wl_det rfl rfl rfl (op_ldx rfl tO9s (Sl.lab 66 rfl (by unfold maxLen; omega)) (by assumption) (by rfl)) ?_
          refine wl_det rfl rfl rfl (op_fn Try.func28 rfl rfl rfl (read_to (s := W') (m := m9) hr2 hgW hp105 hnl (celD 601 rfl) (Mr.lab 602 rfl))) ?_
          refine wl_det rfl rfl rfl (op_move rfl) ?_
          refine wl_det rfl rfl rfl (op_extract rfl rfl) ?_
          refine wl_det rfl rfl rfl (op_extract rfl rfl) ?_
          refine wl_det rfl rfl rfl (op_assign rfl) ?_
          refine wl_det rfl rfl rfl (op_assign rfl) ?_
          refine wl_nil ?_
          refine st_tn ?_
          refine w_seq ?_
          refine w_drawW (fun β => [⟨128, [], [], [], noW (_), false, [], []⟩, ⟨129, [0], [], [], noW (_), false, [], []⟩, ⟨130, [1], [], [], noW (_), false, [], []⟩, ⟨131, [], [], [], noW (_), false, [], []⟩, ⟨132, [], [], [], noW (_), false, [], []⟩, ⟨133, [3, 4], [], [], noW (_), false, [], []⟩, ⟨134, [5], [], [], noW (_), false, [], []⟩, ⟨135, [], [], [], noW (_), false, [], []⟩, ⟨136, [], [], [], noW (_), false, [], []⟩, ⟨137, [7, 8], [], [], noW (_), false, [], []⟩, ⟨138, [9], [], [], noW (_), false, [], []⟩, ⟨139, [6, 10], [], [], noW (_), false, [], []⟩, ⟨140, [2, 11], [], [], noW (_), false, [], []⟩, ⟨141, [12], [], [], noW (_), false, [], []⟩, ⟨142, [], [], [], noW (_), false, [], []⟩, ⟨143, [], [], [], noW (_), false, [], []⟩, ⟨144, [], [], [], noW (_), false, [], []⟩, ⟨145, [15, 16], [], [], noW (_), false, [], []⟩, ⟨146, [17], [], [], noW (_), false, [], []⟩, ⟨147, [14, 18], [], [], noW (_), false, [], []⟩, ⟨148, [13, 19], [], [], noW (_), false, [], []⟩]) [] [19, 16, 17, 11, 18, 12] [⟨128, [], [], false, [], []⟩, ⟨129, [0], [], false, [], []⟩, ⟨130, [1], [], false, [], []⟩, ⟨131, [], [], false, [], []⟩, ⟨132, [], [], false, [], []⟩, ⟨133, [3, 4], [], false, [], []⟩, ⟨134, [5], [], false, [], []⟩, ⟨135, [], [], false, [], []⟩, ⟨136, [], [], false, [], []⟩, ⟨137, [7, 8], [], false, [], []⟩, ⟨138, [9], [], false, [], []⟩, ⟨139, [6, 10], [], false, [], []⟩, ⟨140, [2, 11], [], false, [], []⟩, ⟨141, [12], [], false, [], []⟩, ⟨142, [], [], false, [], []⟩, ⟨143, [], [], false, [], []⟩, ⟨144, [], [], false, [], []⟩, ⟨145, [15, 16], [], false, [], []⟩, ⟨146, [17], [], false, [], []⟩, ⟨147, [14, 18], [], false, [], []⟩, ⟨148, [13, 19], [], false, [], []⟩] [[], [], [], [], [], [], [], [], [], [], [], [], [], [], [], [], [], [], [], [], []] [[], [], [], [], [], [], [], [], [], [], [], [], [], [], [], [], [], [], [], [], []] tMixs (fun _ => by rfl) (fun _ => by rfl) (by kernel_rfl) (by kernel_rfl) (by rfl) (by rfl)
              (fun β => ⟨.p rfl (by intro X; exact op_move rfl),
              ⟨.p rfl (by intro X; rintro _ _ ⟨rfl, rfl⟩; exact op_val (v' := .bool false) (by simp) (op_neq rfl rfl)),
              ⟨.p rfl (by intro X; rintro _ _ ⟨rfl, rfl⟩; exact op_move rfl),
              ⟨.w rfl rfl rfl (by rintro _ _ ⟨rfl, rfl⟩; rfl) (by intro X; exact op_move rfl),
              ⟨.w rfl rfl rfl (by rintro _ _ ⟨rfl, rfl⟩; rfl) (by intro X; exact op_move rfl),
              ⟨.w rfl rfl rfl (by rintro _ _ ⟨rfl, rfl⟩; rfl) (by intro X; rintro _ _ ⟨rfl, rfl⟩ _ _ ⟨rfl, rfl⟩; exact op_idx rfl rfl tS48s (Sl.ent (Sl.lab 107 rfl (by unfold maxLen; omega))) (by omega)),
              ⟨.w rfl rfl rfl (by rintro _ _ ⟨rfl, rfl⟩; rfl) (by intro X; rintro _ _ ⟨rfl, rfl⟩; exact op_ldx rfl tO9s (Sl.lab 107 rfl (by unfold maxLen; omega)) (by assumption) (by rfl)),
              ⟨.w rfl rfl rfl (by rintro _ _ ⟨rfl, rfl⟩; rfl) (by intro X; exact op_move rfl),
              ⟨.w rfl rfl rfl (by rintro _ _ ⟨rfl, rfl⟩; rfl) (by intro X; exact op_move rfl),
              ⟨.w rfl rfl rfl (by rintro _ _ ⟨rfl, rfl⟩; rfl) (by intro X; rintro _ _ ⟨rfl, rfl⟩ _ _ ⟨rfl, rfl⟩; exact op_idx rfl rfl tS48s (Sl.ent (Sl.lab 66 rfl (by unfold maxLen; omega))) (by omega)),
              ⟨.w rfl rfl rfl (by rintro _ _ ⟨rfl, rfl⟩; rfl) (by intro X; rintro _ _ ⟨rfl, rfl⟩; exact op_ldx rfl tO9s (Sl.lab 66 rfl (by unfold maxLen; omega)) (by assumption) (by rfl)),
              ⟨.w rfl rfl rfl (by rintro _ _ ⟨rfl, rfl⟩; rfl) (by intro X; rintro _ _ ⟨rfl, rfl⟩ _ _ ⟨rfl, rfl⟩; exact op_val (v' := .bool false) (by simp) (op_neBs rfl rfl)),
              ⟨.p rfl (by intro X; rintro _ _ ⟨rfl, rfl⟩ _ _ ⟨rfl, rfl⟩; exact op_pick_f rfl rfl),
              ⟨.p rfl (by intro X; rintro _ _ ⟨rfl, rfl⟩; exact op_move rfl),
              ⟨.w rfl rfl rfl (by rintro _ _ ⟨rfl, rfl⟩; rfl) (by intro X; exact op_move rfl),
              ⟨.w rfl rfl rfl (by rintro _ _ ⟨rfl, rfl⟩; rfl) (by intro X; exact op_move rfl),
              ⟨.w rfl rfl rfl (by rintro _ _ ⟨rfl, rfl⟩; rfl) (by intro X; exact op_move rfl),
              ⟨.w rfl rfl rfl (by rintro _ _ ⟨rfl, rfl⟩; rfl) (by intro X; rintro _ _ ⟨rfl, rfl⟩ _ _ ⟨rfl, rfl⟩; exact op_idx rfl rfl tS48s (Sl.ent (Sl.lab 12 rfl (by unfold maxLen; omega))) (by omega)),
              ⟨.w rfl rfl rfl (by rintro _ _ ⟨rfl, rfl⟩; rfl) (by intro X; rintro _ _ ⟨rfl, rfl⟩; exact op_ldx rfl tO9s (Sl.lab 12 rfl (by unfold maxLen; omega)) (by assumption) (by rfl)),
              ⟨.w rfl rfl rfl (by rintro _ _ ⟨rfl, rfl⟩; rfl) (by intro X; rintro _ _ ⟨rfl, rfl⟩ _ _ ⟨rfl, rfl⟩; exact op_val (v' := .bool false) (by simp) (op_neBs rfl rfl)),
              ⟨.p rfl (by intro X; rintro _ _ ⟨rfl, rfl⟩ _ _ ⟨rfl, rfl⟩; exact op_pick_f rfl rfl),
              trivial⟩⟩⟩⟩⟩⟩⟩⟩⟩⟩⟩⟩⟩⟩⟩⟩⟩⟩⟩⟩⟩)
              (fun β β' => ⟨fun _ => by rfl, ⟨fun _ => by rfl, ⟨fun _ => by rfl, ⟨fun _ => by rfl, ⟨fun _ => by rfl, ⟨fun _ => by rfl, ⟨fun _ => by rfl, ⟨fun _ => by rfl, ⟨fun _ => by rfl, ⟨fun _ => by rfl, ⟨fun _ => by rfl, ⟨fun _ => by rfl, ⟨fun _ => by rfl, ⟨fun _ => by rfl, ⟨fun _ => by rfl, ⟨fun _ => by rfl, ⟨fun _ => by rfl, ⟨fun _ => by rfl, ⟨fun _ => by rfl, ⟨fun _ => by rfl, ⟨fun _ => by rfl, trivial⟩⟩⟩⟩⟩⟩⟩⟩⟩⟩⟩⟩⟩⟩⟩⟩⟩⟩⟩⟩⟩) ?_
          intro β
          rintro _ _ ⟨rfl, rfl⟩ _ _ ⟨rfl, rfl⟩ _ _ ⟨rfl, rfl⟩ _ _ ⟨rfl, rfl⟩ _ _ ⟨rfl, rfl⟩ _ _ ⟨rfl, rfl⟩ _ _ ⟨rfl, rfl⟩ _ _ ⟨rfl, rfl⟩ _ _ ⟨rfl, rfl⟩ _ _ ⟨rfl, rfl⟩ _ _ ⟨rfl, rfl⟩ _ _ ⟨rfl, rfl⟩ _ _ ⟨rfl, rfl⟩ _ _ ⟨rfl, rfl⟩ _ _ ⟨rfl, rfl⟩ _ _ ⟨rfl, rfl⟩ _ _ ⟨rfl, rfl⟩ _ _ ⟨rfl, rfl⟩ _ _ ⟨rfl, rfl⟩ _ _ ⟨rfl, rfl⟩ _ _ ⟨rfl, rfl⟩
          refine wl_norm (e' := [(7, _), (11, _), (12, _), (16, _), (17, _), (148, _)]) (.cons rfl (.cons rfl (.cons rfl (.cons rfl (.cons rfl (.cons rfl (.nil _))))))) (by dsimp only [cond_false, cond_true, List.nil_append, List.cons_append]) ?_
          refine wl_nil ?_
          refine st_tn ?_
          refine w_cond_f (rfl) ?_
          refine w_skip ?_
          refine st_bn ?_
          refine st_tn ?_
          refine w_region ?_
          refine wl_det rfl rfl rfl (op_move rfl) ?_
          refine wl_det rfl rfl rfl (op_add' rfl rfl (by omega)) ?_
          refine wl_det rfl rfl rfl (op_assign rfl) ?_
          refine wl_nil ?_
          refine st_roundQ (x := k) (k + 1) [12, 603, 604, 66, 601, 602, 107] rfl (rfl) (.cons rfl (.nil _)) (.cons rfl (.cons rfl (.cons rfl (.cons rfl (.nil _))))) (by
              try dsimp only
              omega) (by
              try dsimp only
              omega) 
        · -- c116.f
          refine w_exit ?_
          refine st_te ?_
          refine st_te ?_
          refine st_be ?_
          refine st_tn ?_
          refine w_seq ?_
          refine w_region ?_
          refine wl_det rfl rfl rfl (op_assign rfl) ?_
          refine wl_nil ?_
          refine st_tn ?_
          refine w_ret ?_
          refine st_ret (vs := [_]) [] Try.results7 ⟨rfl, trivial⟩ rfl ?_
          refine ⟨_, rfl, ?_⟩
          exact ⟨rfl, rfl⟩

end Go.Proofs.Ytjlbeakdgadpmaa
