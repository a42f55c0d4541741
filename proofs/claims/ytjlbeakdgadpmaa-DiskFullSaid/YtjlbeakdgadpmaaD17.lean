/- Laws: Clones, Renames (layer 26). Conditions: none. -/
import Derived.Test.YtjlbeakdgadpmaaD15
namespace Go.Proofs.Ytjlbeakdgadpmaa
open Go Go.SL Go.RowKit Go.DskM
set_option linter.unusedVariables false
set_option linter.unusedSimpArgs false
theorem tA43q : aggB Try.prog 43 6 = true := by kernel_rfl
theorem tB36q : placesB Try.prog 36 = some ([(0, 1), (1, 1), (2, 1), (3, 1), (4, 1)], [Value.int .i64 0, Value.slice none 0 0, Value.bool false, Value.bool false, Value.int .i64 0]) := by kernel_rfl
theorem tMixq : Try.prog.follows .mixedOrders = true := by kernel_rfl
theorem tO5q : oneB Try.prog 5 = true := by kernel_rfl
theorem tR56q : arrB Try.prog 56 2 1 = true := by kernel_rfl
theorem tS39q : sliceB Try.prog 39 43 6 = true := by kernel_rfl

-- CALL sleuth/sleuthlaw26.capacity capac_any n (by assumption)
set_option maxHeartbeats 4000000 in
set_option maxRecDepth 100000 in
theorem lawClones_any {σ : World} {F : List Res} {a : Option Addr} {c : Nat} {L : List OprA} {a2 : Option Addr} {c2 : Nat} {M : List OprA} (n : Int) (hn : 0 ≤ n ∧ n ≤ 255) (hL : OkL σ F a c L) (hM : OkL σ F a2 c2 M) : FnT Try.prog σ F 10 [.int .u8 n, .slice a L.length c, .slice a2 M.length c2] [] (fun u ρ => u = .bool true ∧ ρ = []) := by
  refine fn_of 103 Try.func10 rfl Try.ntmps10 rfl ?_
  have hsl := hL.sl
  have hle := hsl.i64
  have hsm := hM.sl
  have hlm := hsm.i64
  refine w_seq ?_
  refine w_region ?_
  refine wl_det rfl rfl rfl (op_assign rfl) ?_
  refine wl_nil ?_
  refine st_tn ?_
  refine w_seq ?_
  refine w_region ?_
  refine wl_det rfl rfl rfl (op_move rfl) ?_
  refine wl_det rfl rfl rfl (op_fn Try.func13 rfl rfl rfl (capac_any n (by assumption))) ?_
  refine wl_op [] rfl rfl rfl rfl (op_fn Try.func12 rfl rfl rfl (new_ok (20 + n) 601 602 (by omega))) ?_
  rintro _ _ ⟨b9, m9, rfl, rfl⟩
  refine wl_det rfl rfl rfl (op_move rfl) ?_
  refine wl_det rfl rfl rfl (op_extract rfl rfl) ?_
  refine wl_det rfl rfl rfl (op_extract rfl rfl) ?_
  refine wl_det rfl rfl rfl (op_assign rfl) ?_
  refine wl_det rfl rfl rfl (op_assign rfl) ?_
  refine wl_nil ?_
  refine st_tn ?_
  refine w_seq ?_
  refine w_seq ?_
  refine w_region ?_
  refine wl_det rfl rfl rfl (op_fn Try.func14 rfl rfl rfl (known_any)) ?_
  refine wl_det rfl rfl rfl (op_not_t rfl) ?_
  refine wl_det rfl rfl rfl (op_move rfl) ?_
  refine wl_wanted_det rfl rfl rfl rfl rfl rfl rfl (op_move rfl) ?_
  refine wl_wanted_det rfl rfl rfl rfl rfl rfl rfl (op_val (v' := .bool false) (by rfl) (op_neq rfl rfl)) ?_
  refine wl_det rfl rfl rfl (op_pick_f rfl rfl) ?_
  refine wl_nil ?_
  refine st_tn ?_
  refine w_cond_f (rfl) ?_
  refine w_skip ?_
  refine st_tn ?_
  refine w_seq ?_
  refine w_emp 604 (r := slW 51 encM 4 (.slice none 0 0) (newS (20 + n)).fs) (slO_nil 51 4) ?_
  refine w_region ?_
  refine wl_det rfl rfl rfl (op_move rfl) ?_
  refine wl_det rfl rfl rfl (op_fn Try.func13 rfl rfl rfl (capac_any n (by assumption))) ?_
  refine wl_det rfl rfl rfl (op_build tB36q rfl rfl) ?_
  refine wl_op [] rfl rfl rfl rfl (op_box (T := 36) (l := 603) rfl) ?_
  rintro _ _ ⟨b24, rfl, rfl⟩
  refine wl_det rfl rfl rfl (op_assign rfl) ?_
  refine wl_nil ?_
  refine st_tn ?_
  refine w_seq ?_
  refine w_seq ?_
  refine w_region ?_
  refine wl_det rfl rfl rfl (op_assign rfl) ?_
  refine wl_nil ?_
  refine st_tn ?_
  refine w_block ?_
  refine w_loopQ (X := Nat × DskM.St × DskM.Files × Option Addr × Nat × Nat) (fun z => z.1 ≤ L.length ∧ DskM.Good z.2.1 ∧ z.2.2.1.Perm z.2.1.fs) (fun z => [(10, .int .i64 (z.1))]) (fun z => [(601, cel b9 (cellD (z.2.1) m9) 65), (602, mp KL encF m9 (z.2.2.1)), (603, cel b24 (cellS (z.2.1) (z.2.2.2.1) (z.2.2.2.2.1) (z.2.2.2.2.2)) 36), (604, slW 51 encM 4 (.slice (z.2.2.2.1) (z.2.2.2.2.1) (z.2.2.2.2.2)) (z.2.1).fs)]) (fun z => L.length - z.1) ((0, newS (20 + n), [], none, 0, 0)) [(1, _), (2, _), (7, _), (9, _)] [] [601, 602, 603, 604] rfl (rfl) (.cons rfl (.nil _)) (.cons rfl (.cons rfl (.cons rfl (.cons rfl (.nil _))))) (by
      try dsimp only
      exact ⟨Nat.zero_le _, good_new (by omega), List.Perm.refl _⟩) ?_
  rintro ⟨i, S, l_S, a_S, m_S, c_S⟩ ⟨hi, hg, hp⟩
  refine w_norm2 (by dsimp only [List.cons_append, List.nil_append]) (by dsimp only [List.cons_append, List.nil_append]) ?_
  try dsimp only at hi hg hp ⊢
  refine w_seq ?_
  refine w_seq ?_
  refine w_region ?_
  refine wl_det rfl rfl rfl (op_move rfl) ?_
  refine wl_det rfl rfl rfl (op_move rfl) ?_
  refine wl_det rfl rfl rfl (op_lenT rfl tS39q (Sl.ent (Sl.app hsl _))) ?_
  refine wl_det rfl rfl rfl (op_lss rfl rfl) ?_
  refine wl_det rfl rfl rfl (op_move rfl) ?_
  refine wl_gsplit (t := 34) rfl (fun hg34 => ?_) (fun hg34 => ?_)
  · -- 34 is True
    obtain ⟨y, hy⟩ := getE (l := L) (i := i) (by omega)
    have hym := List.mem_of_getElem? hy
    refine wl_wanted_det rfl rfl rfl rfl rfl rfl rfl (op_move rfl) ?_
    refine wl_wanted_det rfl rfl rfl rfl rfl rfl rfl (op_lss rfl rfl) ?_
    refine wl_det rfl rfl rfl (op_pick_t rfl rfl) ?_
    refine wl_nil ?_
    refine st_tn ?_
    refine w_cond rfl (fun hc37 => ?_) (fun hc37 => ?_)
    · -- c37.t
      refine w_skip ?_
      refine st_tn ?_
      refine w_seq ?_
      refine w_block ?_
      refine w_region ?_
      refine wl_det rfl rfl rfl (op_move rfl) ?_
      refine wl_det rfl rfl rfl (op_move rfl) ?_
      refine wl_det rfl rfl rfl (op_move rfl) ?_
      refine wl_det rfl rfl rfl (op_move rfl) ?_
      refine wl_det rfl rfl rfl (op_idx rfl rfl tS39q (Sl.ent (Sl.app hsl _)) (by omega)) ?_
      refine wl_det rfl rfl rfl (op_ldxA rfl tA43q (Sl.app hsl _) (by assumption) (by rfl) (by rfl)) ?_
      refine wl_op [601, 602, 603, 604] rfl rfl rfl rfl (op_fn Try.func24 rfl rfl rfl (perform_any (x := y.x) hg hp (hL.ok y hym) (Sl.app (hL.sc y hym) _))) ?_
      rintro _ _ ⟨rfl, l41, a41, m41, c41, hp41, rfl⟩
      refine wl_nil ?_
      refine st_bn ?_
      refine st_tn ?_
      refine w_region ?_
      refine wl_det rfl rfl rfl (op_move rfl) ?_
      refine wl_det rfl rfl rfl (op_add' rfl rfl (by omega)) ?_
      refine wl_det rfl rfl rfl (op_assign rfl) ?_
      refine wl_nil ?_
      refine st_roundQ (x := (i, S, l_S, a_S, m_S, c_S)) ((i + 1, perfS S y.x, l41, a41, m41, c41)) [601, 602, 603, 604] rfl (rfl) (.cons rfl (.nil _)) (.cons rfl (.cons rfl (.cons rfl (.cons rfl (.nil _))))) (by
          try dsimp only
          exact ⟨by omega, Good.perf hg (hL.ok y hym), hp41⟩) (by
          try dsimp only
          omega) 
    · -- c37.f
      refine w_exit ?_
      refine st_te ?_
      refine st_te ?_
      refine st_be ?_
      refine st_tn ?_
      refine w_seq ?_
      have hgc := hg.cnt
      refine w_region ?_
      refine wl_det rfl rfl rfl (op_move rfl) ?_
      refine wl_op [] rfl rfl rfl rfl (op_fn Try.func29 rfl rfl rfl (clone_any 701 702 (celD 601 rfl) (Mr.lab 602 rfl))) ?_
      rintro _ _ ⟨b48, m48, rfl, rfl⟩
      refine wl_det rfl rfl rfl (op_move rfl) ?_
      refine wl_op [] rfl rfl rfl rfl (op_fn Try.func31 rfl rfl rfl (copied_any 703 704 hg (celS (l := 603) rfl) (Sl.lab 604 rfl (by unfold maxLen; omega)))) ?_
      rintro _ _ ⟨b50, a50, m50, c50, rfl, rfl⟩
      refine wl_det rfl rfl rfl (op_assign rfl) ?_
      refine wl_det rfl rfl rfl (op_assign rfl) ?_
      refine wl_nil ?_
      refine st_tn ?_
      refine w_seq ?_
      refine w_seq ?_
      refine w_openM 602 rfl (fun bs1 ck1 hwf1 => ?_)
      refine w_openM 702 rfl (fun bs2 ck2 hwf2 => ?_)
      refine w_region ?_
      refine wl_det rfl rfl rfl (op_move rfl) ?_
      refine wl_det rfl rfl rfl (op_val (v' := .bool false) (by simp) (op_eqPtr rfl Try.underlying22)) ?_
      refine wl_det rfl rfl rfl (op_move rfl) ?_
      refine wl_wanted_det rfl rfl rfl rfl rfl rfl rfl (op_move rfl) ?_
      refine wl_wanted_det rfl rfl rfl rfl rfl rfl rfl (op_move rfl) ?_
      refine wl_wanted_det rfl rfl rfl rfl rfl rfl rfl (op_val (v' := .bool true) (by simp) (op_fn Try.func30 rfl rfl rfl (equal_any (s := S) (t := S) hg hg hp hp (celD 601 rfl) (celD 701 rfl) (Me.lab 602 rfl) (Mr.ofMe (Me.lab 702 rfl))))) ?_
      refine wl_wanted_det rfl rfl rfl rfl rfl rfl rfl (op_not_t rfl) ?_
      refine wl_det rfl rfl rfl (op_pick_f rfl rfl) ?_
      refine wl_det rfl rfl rfl (op_move rfl) ?_
      refine wl_wanted_det rfl rfl rfl rfl rfl rfl rfl (op_move rfl) ?_
      refine wl_wanted_det rfl rfl rfl rfl rfl rfl rfl (op_move rfl) ?_
      refine wl_wanted_det rfl rfl rfl rfl rfl rfl rfl (op_val (v' := .bool true) (by simp) (op_fn Try.func30 rfl rfl rfl (equal_any (s := S) (t := S) hg hg hp hp (celD 701 rfl) (celD 601 rfl) (Me.lab 702 rfl) (Mr.ofMe (Me.lab 602 rfl))))) ?_
      refine wl_wanted_det rfl rfl rfl rfl rfl rfl rfl (op_not_t rfl) ?_
      refine wl_det rfl rfl rfl (op_pick_f rfl rfl) ?_
      refine wl_nil ?_
      refine st_tn ?_
      refine w_cond_f (rfl) ?_
      refine w_skip ?_
      refine st_tn ?_
      refine w_seq ?_
      refine w_seq ?_
      refine w_wk 602 (mp KL encF m9 l_S) rfl mpE_mp ?_
      refine w_wk 702 (mp KL encF m48 l_S) rfl mpE_mp ?_
      refine w_region ?_
      refine wl_det rfl rfl rfl (op_assign rfl) ?_
      refine wl_nil ?_
      refine st_tn ?_
      refine w_block ?_
      refine w_loopQ (X := Nat × DskM.St × DskM.Files × Option Addr × Nat × Nat) (fun z => z.1 ≤ M.length ∧ DskM.Good z.2.1 ∧ z.2.2.1.Perm z.2.1.fs) (fun z => [(13, .int .i64 (z.1))]) (fun z => [(601, cel b9 (cellD (z.2.1) m9) 65), (602, mp KL encF m9 (z.2.2.1)), (603, cel b24 (cellS (z.2.1) (z.2.2.2.1) (z.2.2.2.2.1) (z.2.2.2.2.2)) 36), (604, slW 51 encM 4 (.slice (z.2.2.2.1) (z.2.2.2.2.1) (z.2.2.2.2.2)) (z.2.1).fs)]) (fun z => M.length - z.1) ((0, S, l_S, a_S, m_S, c_S)) [(2, _), (7, _), (9, _), (11, _), (12, _)] [(702, _), (701, _), (704, _), (703, _)] [601, 602, 603, 604, 702, 701, 704, 703] rfl (rfl) (.cons rfl (.nil _)) (.cons rfl (.cons rfl (.cons rfl (.cons rfl (.cons rfl (.nil _)))))) (by
          try dsimp only
          exact ⟨Nat.zero_le _, hg, hp⟩) ?_
      rintro ⟨j, T, l_T, a_T, m_T, c_T⟩ ⟨hj, hgT, hpT⟩
      refine w_norm2 (by dsimp only [List.cons_append, List.nil_append]) (by dsimp only [List.cons_append, List.nil_append]) ?_
      try dsimp only at hj hgT hpT ⊢
      refine w_seq ?_
      refine w_seq ?_
      refine w_region ?_
      refine wl_det rfl rfl rfl (op_move rfl) ?_
      refine wl_det rfl rfl rfl (op_move rfl) ?_
      refine wl_det rfl rfl rfl (op_lenT rfl tS39q (Sl.ent (Sl.app hsm _))) ?_
      refine wl_det rfl rfl rfl (op_lss rfl rfl) ?_
      refine wl_det rfl rfl rfl (op_move rfl) ?_
      refine wl_gsplit (t := 69) rfl (fun hg69 => ?_) (fun hg69 => ?_)
      · -- 69 is True
        obtain ⟨y, hy⟩ := getE (l := M) (i := j) (by omega)
        have hym := List.mem_of_getElem? hy
        refine wl_wanted_det rfl rfl rfl rfl rfl rfl rfl (op_move rfl) ?_
        refine wl_wanted_det rfl rfl rfl rfl rfl rfl rfl (op_lss rfl rfl) ?_
        refine wl_det rfl rfl rfl (op_pick_t rfl rfl) ?_
        refine wl_nil ?_
        refine st_tn ?_
        refine w_cond_d rfl (fun hc72 => ?_) (fun hc72 => ?_)
        · -- c72.t
          refine w_skip ?_
          refine st_tn ?_
          refine w_seq ?_
          refine w_block ?_
          refine w_region ?_
          refine wl_det rfl rfl rfl (op_move rfl) ?_
          refine wl_det rfl rfl rfl (op_move rfl) ?_
          refine wl_det rfl rfl rfl (op_move rfl) ?_
          refine wl_det rfl rfl rfl (op_move rfl) ?_
          refine wl_det rfl rfl rfl (op_idx rfl rfl tS39q (Sl.ent (Sl.app hsm _)) (by omega)) ?_
          refine wl_det rfl rfl rfl (op_ldxA rfl tA43q (Sl.app hsm _) (by assumption) (by rfl) (by rfl)) ?_
          refine wl_op [601, 602, 603, 604] rfl rfl rfl rfl (op_fn Try.func24 rfl rfl rfl (perform_any (x := y.x) hgT hpT (hM.ok y hym) (Sl.app (hM.sc y hym) _))) ?_
          rintro _ _ ⟨rfl, l41, a41, m41, c41, hp41, rfl⟩
          refine wl_nil ?_
          refine st_bn ?_
          refine st_tn ?_
          refine w_region ?_
          refine wl_det rfl rfl rfl (op_move rfl) ?_
          refine wl_det rfl rfl rfl (op_add' rfl rfl (by omega)) ?_
          refine wl_det rfl rfl rfl (op_assign rfl) ?_
          refine wl_nil ?_
          refine st_roundQ (x := (j, T, l_T, a_T, m_T, c_T)) ((j + 1, perfS T y.x, l41, a41, m41, c41)) [601, 602, 603, 604, 702, 701, 704, 703] rfl (rfl) (.cons rfl (.nil _)) (.cons rfl (.cons rfl (.cons rfl (.cons rfl (.cons rfl (.nil _)))))) (by
              try dsimp only
              exact ⟨by omega, Good.perf hgT (hM.ok y hym), hp41⟩) (by
              try dsimp only
              omega) 
        · -- c72.f
          refine w_exit ?_
          refine st_te ?_
          refine st_te ?_
          refine st_be ?_
          refine st_tn ?_
          refine w_seq ?_
          refine w_openM 602 rfl (fun bs3 ck3 hwf3 => ?_)
          refine w_openM 702 rfl (fun bs4 ck4 hwf4 => ?_)
          have hgc2 := hgT.cnt
          refine w_region ?_
          refine wl_det rfl rfl rfl (op_move rfl) ?_
          refine wl_det rfl rfl rfl (op_move rfl) ?_
          refine wl_det rfl rfl rfl (op_fn Try.func18 rfl rfl rfl (agrees_any hg hp (celS (l := 703) rfl) (Sl.lab 704 rfl (by unfold maxLen; omega)) (celD 701 rfl) (Me.lab 702 rfl))) ?_
          refine wl_det rfl rfl rfl (op_move rfl) ?_
          refine wl_wanted_det rfl rfl rfl rfl rfl rfl rfl (op_move rfl) ?_
          refine wl_wanted_det rfl rfl rfl rfl rfl rfl rfl (op_move rfl) ?_
          refine wl_wanted_det rfl rfl rfl rfl rfl rfl rfl (op_fn Try.func30 rfl rfl rfl (equal_any (s := T) (t := S) hgT hg hpT hp (celD 601 rfl) (celD 701 rfl) (Me.lab 602 rfl) (Mr.ofMe (Me.lab 702 rfl)))) ?_
          refine wl_wanted_det rfl rfl rfl rfl rfl rfl rfl (op_move rfl) ?_
          refine wl_wanted_det rfl rfl rfl rfl rfl rfl rfl (op_move rfl) ?_
          refine wl_wanted_det rfl rfl rfl rfl rfl rfl rfl (op_fn Try.func32 rfl rfl rfl (same_any (s := T) (t := S) (celS (l := 603) rfl) (celS (l := 703) rfl) (Sl.lab 604 rfl (by unfold maxLen; omega)) (Sl.lab 704 rfl (by unfold maxLen; omega)))) ?_
          refine wl_wanted_det rfl rfl rfl rfl rfl rfl rfl (op_val (v' := .bool true) (by simp) (op_eqB rfl rfl Try.underlying4)) ?_
          refine wl_det rfl rfl rfl (op_pick_t rfl rfl) ?_
          refine wl_det rfl rfl rfl (op_move rfl) ?_
          refine wl_wanted_det rfl rfl rfl rfl rfl rfl rfl (op_move rfl) ?_
          refine wl_wanted_det rfl rfl rfl rfl rfl rfl rfl (op_move rfl) ?_
          refine wl_wanted_det rfl rfl rfl rfl rfl rfl rfl (op_fn Try.func30 rfl rfl rfl (equal_any (s := S) (t := T) hg hgT hp hpT (celD 701 rfl) (celD 601 rfl) (Me.lab 702 rfl) (Mr.ofMe (Me.lab 602 rfl)))) ?_
          refine wl_wanted_det rfl rfl rfl rfl rfl rfl rfl (op_move rfl) ?_
          refine wl_wanted_det rfl rfl rfl rfl rfl rfl rfl (op_move rfl) ?_
          refine wl_wanted_det rfl rfl rfl rfl rfl rfl rfl (op_fn Try.func32 rfl rfl rfl (same_any (s := T) (t := S) (celS (l := 603) rfl) (celS (l := 703) rfl) (Sl.lab 604 rfl (by unfold maxLen; omega)) (Sl.lab 704 rfl (by unfold maxLen; omega)))) ?_
          refine wl_wanted_det rfl rfl rfl rfl rfl rfl rfl (op_val (v' := .bool true) (by simp [eq_comm]) (op_eqB rfl rfl Try.underlying4)) ?_
          refine wl_det rfl rfl rfl (op_pick_t rfl rfl) ?_
          refine wl_det rfl rfl rfl (op_assign rfl) ?_
          refine wl_nil ?_
          refine st_tn ?_
          refine w_ret ?_
          refine st_ret (vs := [_]) [] Try.results10 ⟨rfl, trivial⟩ rfl ?_
          refine ⟨_, rfl, ?_⟩
          exact ⟨rfl, rfl⟩
      · -- 69 is False
        refine wl_unwanted rfl rfl rfl rfl rfl rfl rfl rfl ?_
        refine wl_unwanted rfl rfl rfl rfl rfl rfl rfl rfl ?_
        refine wl_det rfl rfl rfl (op_pick_f rfl rfl) ?_
        refine wl_nil ?_
        refine st_tn ?_
        refine w_cond_f (rfl) ?_
        refine w_exit ?_
        refine st_te ?_
        refine st_te ?_
        refine st_be ?_
        refine st_tn ?_
        refine w_seq ?_
        refine w_openM 602 rfl (fun bs3 ck3 hwf3 => ?_)
        refine w_openM 702 rfl (fun bs4 ck4 hwf4 => ?_)
        have hgc2 := hgT.cnt
        refine w_region ?_
        refine wl_det rfl rfl rfl (op_move rfl) ?_
        refine wl_det rfl rfl rfl (op_move rfl) ?_
        refine wl_det rfl rfl rfl (op_fn Try.func18 rfl rfl rfl (agrees_any hg hp (celS (l := 703) rfl) (Sl.lab 704 rfl (by unfold maxLen; omega)) (celD 701 rfl) (Me.lab 702 rfl))) ?_
        refine wl_det rfl rfl rfl (op_move rfl) ?_
        refine wl_wanted_det rfl rfl rfl rfl rfl rfl rfl (op_move rfl) ?_
        refine wl_wanted_det rfl rfl rfl rfl rfl rfl rfl (op_move rfl) ?_
        refine wl_wanted_det rfl rfl rfl rfl rfl rfl rfl (op_fn Try.func30 rfl rfl rfl (equal_any (s := T) (t := S) hgT hg hpT hp (celD 601 rfl) (celD 701 rfl) (Me.lab 602 rfl) (Mr.ofMe (Me.lab 702 rfl)))) ?_
        refine wl_wanted_det rfl rfl rfl rfl rfl rfl rfl (op_move rfl) ?_
        refine wl_wanted_det rfl rfl rfl rfl rfl rfl rfl (op_move rfl) ?_
        refine wl_wanted_det rfl rfl rfl rfl rfl rfl rfl (op_fn Try.func32 rfl rfl rfl (same_any (s := T) (t := S) (celS (l := 603) rfl) (celS (l := 703) rfl) (Sl.lab 604 rfl (by unfold maxLen; omega)) (Sl.lab 704 rfl (by unfold maxLen; omega)))) ?_
        refine wl_wanted_det rfl rfl rfl rfl rfl rfl rfl (op_val (v' := .bool true) (by simp) (op_eqB rfl rfl Try.underlying4)) ?_
        refine wl_det rfl rfl rfl (op_pick_t rfl rfl) ?_
        refine wl_det rfl rfl rfl (op_move rfl) ?_
        refine wl_wanted_det rfl rfl rfl rfl rfl rfl rfl (op_move rfl) ?_
        refine wl_wanted_det rfl rfl rfl rfl rfl rfl rfl (op_move rfl) ?_
        refine wl_wanted_det rfl rfl rfl rfl rfl rfl rfl (op_fn Try.func30 rfl rfl rfl (equal_any (s := S) (t := T) hg hgT hp hpT (celD 701 rfl) (celD 601 rfl) (Me.lab 702 rfl) (Mr.ofMe (Me.lab 602 rfl)))) ?_
        refine wl_wanted_det rfl rfl rfl rfl rfl rfl rfl (op_move rfl) ?_
        refine wl_wanted_det rfl rfl rfl rfl rfl rfl rfl (op_move rfl) ?_
        refine wl_wanted_det rfl rfl rfl rfl rfl rfl rfl (op_fn Try.func32 rfl rfl rfl (same_any (s := T) (t := S) (celS (l := 603) rfl) (celS (l := 703) rfl) (Sl.lab 604 rfl (by unfold maxLen; omega)) (Sl.lab 704 rfl (by unfold maxLen; omega)))) ?_
        refine wl_wanted_det rfl rfl rfl rfl rfl rfl rfl (op_val (v' := .bool true) (by simp [eq_comm]) (op_eqB rfl rfl Try.underlying4)) ?_
        refine wl_det rfl rfl rfl (op_pick_t rfl rfl) ?_
        refine wl_det rfl rfl rfl (op_assign rfl) ?_
        refine wl_nil ?_
        refine st_tn ?_
        refine w_ret ?_
        refine st_ret (vs := [_]) [] Try.results10 ⟨rfl, trivial⟩ rfl ?_
        refine ⟨_, rfl, ?_⟩
        exact ⟨rfl, rfl⟩
  · -- 34 is False
    refine wl_unwanted rfl rfl rfl rfl rfl rfl rfl rfl ?_
    refine wl_unwanted rfl rfl rfl rfl rfl rfl rfl rfl ?_
    refine wl_det rfl rfl rfl (op_pick_f rfl rfl) ?_
    refine wl_nil ?_
    refine st_tn ?_
    refine w_cond_f (rfl) ?_
    refine w_exit ?_
    refine st_te ?_
    refine st_te ?_
    refine st_be ?_
    refine st_tn ?_
    refine w_seq ?_
    have hgc := hg.cnt
    refine w_region ?_
    refine wl_det rfl rfl rfl (op_move rfl) ?_
    refine wl_op [] rfl rfl rfl rfl (op_fn Try.func29 rfl rfl rfl (clone_any 701 702 (celD 601 rfl) (Mr.lab 602 rfl))) ?_
    rintro _ _ ⟨b48, m48, rfl, rfl⟩
    refine wl_det rfl rfl rfl (op_move rfl) ?_
    refine wl_op [] rfl rfl rfl rfl (op_fn Try.func31 rfl rfl rfl (copied_any 703 704 hg (celS (l := 603) rfl) (Sl.lab 604 rfl (by unfold maxLen; omega)))) ?_
    rintro _ _ ⟨b50, a50, m50, c50, rfl, rfl⟩
    refine wl_det rfl rfl rfl (op_assign rfl) ?_
    refine wl_det rfl rfl rfl (op_assign rfl) ?_
    refine wl_nil ?_
    refine st_tn ?_
    refine w_seq ?_
    refine w_seq ?_
    refine w_openM 602 rfl (fun bs1 ck1 hwf1 => ?_)
    refine w_openM 702 rfl (fun bs2 ck2 hwf2 => ?_)
    refine w_region ?_
    refine wl_det rfl rfl rfl (op_move rfl) ?_
    refine wl_det rfl rfl rfl (op_val (v' := .bool false) (by simp) (op_eqPtr rfl Try.underlying22)) ?_
    refine wl_det rfl rfl rfl (op_move rfl) ?_
    refine wl_wanted_det rfl rfl rfl rfl rfl rfl rfl (op_move rfl) ?_
    refine wl_wanted_det rfl rfl rfl rfl rfl rfl rfl (op_move rfl) ?_
    refine wl_wanted_det rfl rfl rfl rfl rfl rfl rfl (op_val (v' := .bool true) (by simp) (op_fn Try.func30 rfl rfl rfl (equal_any (s := S) (t := S) hg hg hp hp (celD 601 rfl) (celD 701 rfl) (Me.lab 602 rfl) (Mr.ofMe (Me.lab 702 rfl))))) ?_
    refine wl_wanted_det rfl rfl rfl rfl rfl rfl rfl (op_not_t rfl) ?_
    refine wl_det rfl rfl rfl (op_pick_f rfl rfl) ?_
    refine wl_det rfl rfl rfl (op_move rfl) ?_
    refine wl_wanted_det rfl rfl rfl rfl rfl rfl rfl (op_move rfl) ?_
    refine wl_wanted_det rfl rfl rfl rfl rfl rfl rfl (op_move rfl) ?_
    refine wl_wanted_det rfl rfl rfl rfl rfl rfl rfl (op_val (v' := .bool true) (by simp) (op_fn Try.func30 rfl rfl rfl (equal_any (s := S) (t := S) hg hg hp hp (celD 701 rfl) (celD 601 rfl) (Me.lab 702 rfl) (Mr.ofMe (Me.lab 602 rfl))))) ?_
    refine wl_wanted_det rfl rfl rfl rfl rfl rfl rfl (op_not_t rfl) ?_
    refine wl_det rfl rfl rfl (op_pick_f rfl rfl) ?_
    refine wl_nil ?_
    refine st_tn ?_
    refine w_cond_f (rfl) ?_
    refine w_skip ?_
    refine st_tn ?_
    refine w_seq ?_
    refine w_seq ?_
    refine w_wk 602 (mp KL encF m9 l_S) rfl mpE_mp ?_
    refine w_wk 702 (mp KL encF m48 l_S) rfl mpE_mp ?_
    refine w_region ?_
    refine wl_det rfl rfl rfl (op_assign rfl) ?_
    refine wl_nil ?_
    refine st_tn ?_
    refine w_block ?_
    refine w_loopQ (X := Nat × DskM.St × DskM.Files × Option Addr × Nat × Nat) (fun z => z.1 ≤ M.length ∧ DskM.Good z.2.1 ∧ z.2.2.1.Perm z.2.1.fs) (fun z => [(13, .int .i64 (z.1))]) (fun z => [(601, cel b9 (cellD (z.2.1) m9) 65), (602, mp KL encF m9 (z.2.2.1)), (603, cel b24 (cellS (z.2.1) (z.2.2.2.1) (z.2.2.2.2.1) (z.2.2.2.2.2)) 36), (604, slW 51 encM 4 (.slice (z.2.2.2.1) (z.2.2.2.2.1) (z.2.2.2.2.2)) (z.2.1).fs)]) (fun z => M.length - z.1) ((0, S, l_S, a_S, m_S, c_S)) [(2, _), (7, _), (9, _), (11, _), (12, _)] [(702, _), (701, _), (704, _), (703, _)] [601, 602, 603, 604, 702, 701, 704, 703] rfl (rfl) (.cons rfl (.nil _)) (.cons rfl (.cons rfl (.cons rfl (.cons rfl (.cons rfl (.nil _)))))) (by
        try dsimp only
        exact ⟨Nat.zero_le _, hg, hp⟩) ?_
    rintro ⟨j, T, l_T, a_T, m_T, c_T⟩ ⟨hj, hgT, hpT⟩
    refine w_norm2 (by dsimp only [List.cons_append, List.nil_append]) (by dsimp only [List.cons_append, List.nil_append]) ?_
    try dsimp only at hj hgT hpT ⊢
    refine w_seq ?_
    refine w_seq ?_
    refine w_region ?_
    refine wl_det rfl rfl rfl (op_move rfl) ?_
    refine wl_det rfl rfl rfl (op_move rfl) ?_
    refine wl_det rfl rfl rfl (op_lenT rfl tS39q (Sl.ent (Sl.app hsm _))) ?_
    refine wl_det rfl rfl rfl (op_lss rfl rfl) ?_
    refine wl_det rfl rfl rfl (op_move rfl) ?_
    refine wl_gsplit (t := 69) rfl (fun hg69 => ?_) (fun hg69 => ?_)
    · -- 69 is True
      obtain ⟨y, hy⟩ := getE (l := M) (i := j) (by omega)
      have hym := List.mem_of_getElem? hy
      refine wl_wanted_det rfl rfl rfl rfl rfl rfl rfl (op_move rfl) ?_
      refine wl_wanted_det rfl rfl rfl rfl rfl rfl rfl (op_lss rfl rfl) ?_
      refine wl_det rfl rfl rfl (op_pick_t rfl rfl) ?_
      refine wl_nil ?_
      refine st_tn ?_
      refine w_cond_d rfl (fun hc72 => ?_) (fun hc72 => ?_)
      · -- c72.t
        refine w_skip ?_
        refine st_tn ?_
        refine w_seq ?_
        refine w_block ?_
        refine w_region ?_
        refine wl_det rfl rfl rfl (op_move rfl) ?_
        refine wl_det rfl rfl rfl (op_move rfl) ?_
        refine wl_det rfl rfl rfl (op_move rfl) ?_
        refine wl_det rfl rfl rfl (op_move rfl) ?_
        refine wl_det rfl rfl rfl (op_idx rfl rfl tS39q (Sl.ent (Sl.app hsm _)) (by omega)) ?_
        refine wl_det rfl rfl rfl (op_ldxA rfl tA43q (Sl.app hsm _) (by assumption) (by rfl) (by rfl)) ?_
        refine wl_op [601, 602, 603, 604] rfl rfl rfl rfl (op_fn Try.func24 rfl rfl rfl (perform_any (x := y.x) hgT hpT (hM.ok y hym) (Sl.app (hM.sc y hym) _))) ?_
        rintro _ _ ⟨rfl, l41, a41, m41, c41, hp41, rfl⟩
        refine wl_nil ?_
        refine st_bn ?_
        refine st_tn ?_
        refine w_region ?_
        refine wl_det rfl rfl rfl (op_move rfl) ?_
        refine wl_det rfl rfl rfl (op_add' rfl rfl (by omega)) ?_
        refine wl_det rfl rfl rfl (op_assign rfl) ?_
        refine wl_nil ?_
        refine st_roundQ (x := (j, T, l_T, a_T, m_T, c_T)) ((j + 1, perfS T y.x, l41, a41, m41, c41)) [601, 602, 603, 604, 702, 701, 704, 703] rfl (rfl) (.cons rfl (.nil _)) (.cons rfl (.cons rfl (.cons rfl (.cons rfl (.cons rfl (.nil _)))))) (by
            try dsimp only
            exact ⟨by omega, Good.perf hgT (hM.ok y hym), hp41⟩) (by
            try dsimp only
            omega) 
      · -- c72.f
        refine w_exit ?_
        refine st_te ?_
        refine st_te ?_
        refine st_be ?_
        refine st_tn ?_
        refine w_seq ?_
        refine w_openM 602 rfl (fun bs3 ck3 hwf3 => ?_)
        refine w_openM 702 rfl (fun bs4 ck4 hwf4 => ?_)
        have hgc2 := hgT.cnt
        refine w_region ?_
        refine wl_det rfl rfl rfl (op_move rfl) ?_
        refine wl_det rfl rfl rfl (op_move rfl) ?_
        refine wl_det rfl rfl rfl (op_fn Try.func18 rfl rfl rfl (agrees_any hg hp (celS (l := 703) rfl) (Sl.lab 704 rfl (by unfold maxLen; omega)) (celD 701 rfl) (Me.lab 702 rfl))) ?_
        refine wl_det rfl rfl rfl (op_move rfl) ?_
        refine wl_wanted_det rfl rfl rfl rfl rfl rfl rfl (op_move rfl) ?_
        refine wl_wanted_det rfl rfl rfl rfl rfl rfl rfl (op_move rfl) ?_
        refine wl_wanted_det rfl rfl rfl rfl rfl rfl rfl (op_fn Try.func30 rfl rfl rfl (equal_any (s := T) (t := S) hgT hg hpT hp (celD 601 rfl) (celD 701 rfl) (Me.lab 602 rfl) (Mr.ofMe (Me.lab 702 rfl)))) ?_
        refine wl_wanted_det rfl rfl rfl rfl rfl rfl rfl (op_move rfl) ?_
        refine wl_wanted_det rfl rfl rfl rfl rfl rfl rfl (op_move rfl) ?_
        refine wl_wanted_det rfl rfl rfl rfl rfl rfl rfl (op_fn Try.func32 rfl rfl rfl (same_any (s := T) (t := S) (celS (l := 603) rfl) (celS (l := 703) rfl) (Sl.lab 604 rfl (by unfold maxLen; omega)) (Sl.lab 704 rfl (by unfold maxLen; omega)))) ?_
        refine wl_wanted_det rfl rfl rfl rfl rfl rfl rfl (op_val (v' := .bool true) (by simp) (op_eqB rfl rfl Try.underlying4)) ?_
        refine wl_det rfl rfl rfl (op_pick_t rfl rfl) ?_
        refine wl_det rfl rfl rfl (op_move rfl) ?_
        refine wl_wanted_det rfl rfl rfl rfl rfl rfl rfl (op_move rfl) ?_
        refine wl_wanted_det rfl rfl rfl rfl rfl rfl rfl (op_move rfl) ?_
        refine wl_wanted_det rfl rfl rfl rfl rfl rfl rfl (op_fn Try.func30 rfl rfl rfl (equal_any (s := S) (t := T) hg hgT hp hpT (celD 701 rfl) (celD 601 rfl) (Me.lab 702 rfl) (Mr.ofMe (Me.lab 602 rfl)))) ?_
        refine wl_wanted_det rfl rfl rfl rfl rfl rfl rfl (op_move rfl) ?_
        refine wl_wanted_det rfl rfl rfl rfl rfl rfl rfl (op_move rfl) ?_
        refine wl_wanted_det rfl rfl rfl rfl rfl rfl rfl (op_fn Try.func32 rfl rfl rfl (same_any (s := T) (t := S) (celS (l := 603) rfl) (celS (l := 703) rfl) (Sl.lab 604 rfl (by unfold maxLen; omega)) (Sl.lab 704 rfl (by unfold maxLen; omega)))) ?_
        refine wl_wanted_det rfl rfl rfl rfl rfl rfl rfl (op_val (v' := .bool true) (by simp [eq_comm]) (op_eqB rfl rfl Try.underlying4)) ?_
        refine wl_det rfl rfl rfl (op_pick_t rfl rfl) ?_
        refine wl_det rfl rfl rfl (op_assign rfl) ?_
        refine wl_nil ?_
        refine st_tn ?_
        refine w_ret ?_
        refine st_ret (vs := [_]) [] Try.results10 ⟨rfl, trivial⟩ rfl ?_
        refine ⟨_, rfl, ?_⟩
        exact ⟨rfl, rfl⟩
    · -- 69 is False
      refine wl_unwanted rfl rfl rfl rfl rfl rfl rfl rfl ?_
      refine wl_unwanted rfl rfl rfl rfl rfl rfl rfl rfl ?_
      refine wl_det rfl rfl rfl (op_pick_f rfl rfl) ?_
      refine wl_nil ?_
      refine st_tn ?_
      refine w_cond_f (rfl) ?_
      refine w_exit ?_
      refine st_te ?_
      refine st_te ?_
      refine st_be ?_
      refine st_tn ?_
      refine w_seq ?_
      refine w_openM 602 rfl (fun bs3 ck3 hwf3 => ?_)
      refine w_openM 702 rfl (fun bs4 ck4 hwf4 => ?_)
      have hgc2 := hgT.cnt
      refine w_region ?_
      refine wl_det rfl rfl rfl (op_move rfl) ?_
      refine wl_det rfl rfl rfl (op_move rfl) ?_
      refine wl_det rfl rfl rfl (op_fn Try.func18 rfl rfl rfl (agrees_any hg hp (celS (l := 703) rfl) (Sl.lab 704 rfl (by unfold maxLen; omega)) (celD 701 rfl) (Me.lab 702 rfl))) ?_
      refine wl_det rfl rfl rfl (op_move rfl) ?_
      refine wl_wanted_det rfl rfl rfl rfl rfl rfl rfl (op_move rfl) ?_
      refine wl_wanted_det rfl rfl rfl rfl rfl rfl rfl (op_move rfl) ?_
      refine wl_wanted_det rfl rfl rfl rfl rfl rfl rfl (op_fn Try.func30 rfl rfl rfl (equal_any (s := T) (t := S) hgT hg hpT hp (celD 601 rfl) (celD 701 rfl) (Me.lab 602 rfl) (Mr.ofMe (Me.lab 702 rfl)))) ?_
      refine wl_wanted_det rfl rfl rfl rfl rfl rfl rfl (op_move rfl) ?_
      refine wl_wanted_det rfl rfl rfl rfl rfl rfl rfl (op_move rfl) ?_
      refine wl_wanted_det rfl rfl rfl rfl rfl rfl rfl (op_fn Try.func32 rfl rfl rfl (same_any (s := T) (t := S) (celS (l := 603) rfl) (celS (l := 703) rfl) (Sl.lab 604 rfl (by unfold maxLen; omega)) (Sl.lab 704 rfl (by unfold maxLen; omega)))) ?_
      refine wl_wanted_det rfl rfl rfl rfl rfl rfl rfl (op_val (v' := .bool true) (by simp) (op_eqB rfl rfl Try.underlying4)) ?_
      refine wl_det rfl rfl rfl (op_pick_t rfl rfl) ?_
      refine wl_det rfl rfl rfl (op_move rfl) ?_
      refine wl_wanted_det rfl rfl rfl rfl rfl rfl rfl (op_move rfl) ?_
      refine wl_wanted_det rfl rfl rfl rfl rfl rfl rfl (op_move rfl) ?_
      refine wl_wanted_det rfl rfl rfl rfl rfl rfl rfl (op_fn Try.func30 rfl rfl rfl (equal_any (s := S) (t := T) hg hgT hp hpT (celD 701 rfl) (celD 601 rfl) (Me.lab 702 rfl) (Mr.ofMe (Me.lab 602 rfl)))) ?_
      refine wl_wanted_det rfl rfl rfl rfl rfl rfl rfl (op_move rfl) ?_
      refine wl_wanted_det rfl rfl rfl rfl rfl rfl rfl (op_move rfl) ?_
      refine wl_wanted_det rfl rfl rfl rfl rfl rfl rfl (op_fn Try.func32 rfl rfl rfl (same_any (s := T) (t := S) (celS (l := 603) rfl) (celS (l := 703) rfl) (Sl.lab 604 rfl (by unfold maxLen; omega)) (Sl.lab 704 rfl (by unfold maxLen; omega)))) ?_
      refine wl_wanted_det rfl rfl rfl rfl rfl rfl rfl (op_val (v' := .bool true) (by simp [eq_comm]) (op_eqB rfl rfl Try.underlying4)) ?_
      refine wl_det rfl rfl rfl (op_pick_t rfl rfl) ?_
      refine wl_det rfl rfl rfl (op_assign rfl) ?_
      refine wl_nil ?_
      refine st_tn ?_
      refine w_ret ?_
      refine st_ret (vs := [_]) [] Try.results10 ⟨rfl, trivial⟩ rfl ?_
      refine ⟨_, rfl, ?_⟩
      exact ⟨rfl, rfl⟩

theorem sta_up_ (s : St) (sc : List Int) : (staO s sc).down = false := by
  cases h : s.down
  · rw [sta_up h]; exact h
  · rw [sta_down h]
theorem read_found {s : St} {n : Bs} {d : Bool} (h : ¬ (readO s n d).2 ≠ 0) : readyE s [n] = 0 ∧ ∃ f, find s.fs n = some f := by
  rw [read_find] at h
  obtain ⟨h1, h2⟩ := find_ok (s := s) (n := n) h
  exact ⟨by simpa using h1, h2⟩
theorem read_lost {s : St} {n : Bs} {d : Bool} (h : (readO s n d).2 = 10) : readyE s [n] = 0 ∧ find s.fs n = none := by
  unfold readO at h
  by_cases hr : readyE s [n] ≠ 0
  · rw [if_pos hr] at h
    simp only at h
    unfold readyE at h
    split at h
    · omega
    · split at h <;> omega
  · rw [if_neg hr] at h
    refine ⟨by simpa using hr, ?_⟩
    cases hf : find s.fs n with
    | none => rfl
    | some f => rw [hf] at h; simp at h
theorem ready2 {s : St} {a b : Bs} (h1 : readyE s [a] = 0) (h2 : readyE s [b] = 0) : ¬ readyE s [a, b] ≠ 0 := by
  obtain ⟨h3, h4⟩ := ready0 (s := s) (ns := [a]) (by simp [h1])
  obtain ⟨_, h5⟩ := ready0 (s := s) (ns := [b]) (by simp [h2])
  unfold readyE
  rw [if_neg (by simp [h3]), if_pos (by simp [h4 a (by simp), h5 b (by simp)])]; simp
theorem ready_fs {s : St} {fs : Files} {k : Int} {ns : List Bs} : readyE { s with fs := fs, left := k } ns = readyE s ns := rfl
theorem oper_left {s : St} {fs : Files} {k : Int} (h : s.lim = true) (hk : 0 < k) : oper { s with fs := fs, left := k } = (true, { s with fs := fs, left := k - 1 }) := by
  unfold oper; rw [if_pos h, if_neg (by simp only; omega)]
theorem there_back {fs : Files} {a b : Bs} {f : Fl} (hi : DskM.Inc fs) (ha : find fs a = some f) (hb : find fs b = none) : setS (delS (setS (delS fs a) b f) b) a f = fs := by
  refine Inc.ext hi.del.set.del.set hi fun k => ?_
  rw [find_set hi.del.set.del, find_del, find_set hi.del, find_del]
  by_cases h1 : k = a
  · rw [if_pos h1, h1, ha]
  · rw [if_neg h1]
    by_cases h2 : k = b
    · rw [if_pos h2, h2, hb]
    · rw [if_neg h2, if_neg h2, if_neg h1]
/-- There, back, and to itself. -/
theorem ren_laws {s : St} (hg : DskM.Good s) (hd : s.down = false) {a b : Bs} {f : Fl} (ha : readyE s [a] = 0) (hb : readyE s [b] = 0) (hfa : find s.fs a = some f) (hfb : find s.fs b = none) :
    renO (limO s 9) a b = (0, { limO s 9 with fs := setS (delS s.fs a) b f, left := 8 }) ∧
    renO { limO s 9 with fs := setS (delS s.fs a) b f, left := 8 } b a = (0, { limO s 9 with left := 7 }) ∧
    renO { limO s 9 with left := 7 } a a = (0, { limO s 9 with left := 6 }) := by
  have r1 := ready2 ha hb
  have r2 := ready2 hb ha
  have r3 := ready2 ha ha
  have hi := hg.inc
  refine ⟨?_, ?_, ?_⟩
  · have ho : oper (limO s 9) = (true, { limO s 9 with left := 8 }) := oper_left (s := limO s 9) (fs := s.fs) (k := 9) rfl (by decide)
    rw [ren_done (s := limO s 9) r1 hfa (by rw [ho]), ho]; rfl
  · have ho : oper { limO s 9 with fs := setS (delS s.fs a) b f, left := 8 } = (true, { limO s 9 with fs := setS (delS s.fs a) b f, left := 7 }) := oper_left (s := limO s 9) rfl (by decide)
    rw [ren_done (f := f) (s := { limO s 9 with fs := setS (delS s.fs a) b f, left := 8 }) r2 (by show find (setS (delS s.fs a) b f) b = some f; rw [find_set hi.del, if_pos rfl]) (by rw [ho]), ho]
    simp only
    rw [there_back hi hfa hfb]
    try rfl
  · have ho : oper { limO s 9 with left := 7 } = (true, { limO s 9 with left := 6 }) := oper_left (s := limO s 9) (fs := s.fs) rfl (by decide)
    rw [ren_done (f := f) (s := { limO s 9 with left := 7 }) r3 hfa (by rw [ho]), ho]
    simp only
    rw [show (limO s 9).fs = s.fs from rfl, set_del_self hi hfa]
    try rfl
set_option maxHeartbeats 4000000 in
set_option maxRecDepth 100000 in
theorem lawRenames_any {σ : World} {F : List Res} {a : Option Addr} {c : Nat} {L : List OprA} (n x y : Int) (hn : 0 ≤ n ∧ n ≤ 255) (hL : OkL σ F a c L) (hx : 0 ≤ x ∧ x ≤ 255) (hy : 0 ≤ y ∧ y ≤ 255) : FnT Try.prog σ F 9 [.int .u8 n, .slice a L.length c, .agg #[.int .u8 x, .int .u8 y]] [] (fun u ρ => u = .bool true ∧ ρ = []) := by
  refine fn_of 121 Try.func9 rfl Try.ntmps9 rfl ?_
  have hsl := hL.sl
  have hle := hsl.i64
  refine w_seq ?_
  refine w_region ?_
  refine wl_op [] rfl rfl rfl rfl (op_box (T := 56) (l := 5) rfl) ?_
  rintro _ _ ⟨b5, rfl, rfl⟩
  refine wl_det rfl rfl rfl (op_assign rfl) ?_
  refine wl_nil ?_
  refine st_tn ?_
  refine w_seq ?_
  refine w_region ?_
  refine wl_det rfl rfl rfl (op_move rfl) ?_
  refine wl_det rfl rfl rfl (op_fn Try.func13 rfl rfl rfl (capac_any n (by assumption))) ?_
  refine wl_op [] rfl rfl rfl rfl (op_fn Try.func12 rfl rfl rfl (new_ok (20 + n) 601 602 (by omega))) ?_
  rintro _ _ ⟨b9, m9, rfl, rfl⟩
  refine wl_det rfl rfl rfl (op_move rfl) ?_
  refine wl_det rfl rfl rfl (op_extract rfl rfl) ?_
  refine wl_det rfl rfl rfl (op_extract rfl rfl) ?_
  refine wl_det rfl rfl rfl (op_assign rfl) ?_
  refine wl_det rfl rfl rfl (op_assign rfl) ?_
  refine wl_nil ?_
  refine st_tn ?_
  refine w_seq ?_
  refine w_seq ?_
  refine w_region ?_
  refine wl_det rfl rfl rfl (op_fn Try.func14 rfl rfl rfl (known_any)) ?_
  refine wl_det rfl rfl rfl (op_not_t rfl) ?_
  refine wl_det rfl rfl rfl (op_move rfl) ?_
  refine wl_wanted_det rfl rfl rfl rfl rfl rfl rfl (op_move rfl) ?_
  refine wl_wanted_det rfl rfl rfl rfl rfl rfl rfl (op_val (v' := .bool false) (by rfl) (op_neq rfl rfl)) ?_
  refine wl_det rfl rfl rfl (op_pick_f rfl rfl) ?_
  refine wl_nil ?_
  refine st_tn ?_
  refine w_cond_f (rfl) ?_
  refine w_skip ?_
  refine st_tn ?_
  refine w_seq ?_
  refine w_emp 604 (r := slW 51 encM 4 (.slice none 0 0) (newS (20 + n)).fs) (slO_nil 51 4) ?_
  refine w_region ?_
  refine wl_det rfl rfl rfl (op_move rfl) ?_
  refine wl_det rfl rfl rfl (op_fn Try.func13 rfl rfl rfl (capac_any n (by assumption))) ?_
  refine wl_det rfl rfl rfl (op_build tB36q rfl rfl) ?_
  refine wl_op [] rfl rfl rfl rfl (op_box (T := 36) (l := 603) rfl) ?_
  rintro _ _ ⟨b24, rfl, rfl⟩
  refine wl_det rfl rfl rfl (op_assign rfl) ?_
  refine wl_nil ?_
  refine st_tn ?_
  refine w_seq ?_
  refine w_seq ?_
  refine w_region ?_
  refine wl_det rfl rfl rfl (op_assign rfl) ?_
  refine wl_nil ?_
  refine st_tn ?_
  refine w_block ?_
  refine w_loopQ (X := Nat × DskM.St × DskM.Files × Option Addr × Nat × Nat) (fun z => z.1 ≤ L.length ∧ DskM.Good z.2.1 ∧ z.2.2.1.Perm z.2.1.fs) (fun z => [(10, .int .i64 (z.1))]) (fun z => [(601, cel b9 (cellD (z.2.1) m9) 65), (602, mp KL encF m9 (z.2.2.1)), (603, cel b24 (cellS (z.2.1) (z.2.2.2.1) (z.2.2.2.2.1) (z.2.2.2.2.2)) 36), (604, slW 51 encM 4 (.slice (z.2.2.2.1) (z.2.2.2.2.1) (z.2.2.2.2.2)) (z.2.1).fs)]) (fun z => L.length - z.1) ((0, newS (20 + n), [], none, 0, 0)) [(1, _), (5, _), (7, _), (9, _)] [(5, _)] [601, 602, 603, 604, 5] rfl (rfl) (.cons rfl (.nil _)) (.cons rfl (.cons rfl (.cons rfl (.cons rfl (.nil _))))) (by
      try dsimp only
      exact ⟨Nat.zero_le _, good_new (by omega), List.Perm.refl _⟩) ?_
  rintro ⟨i, S, l_S, a_S, m_S, c_S⟩ ⟨hi, hg, hp⟩
  refine w_norm2 (by dsimp only [List.cons_append, List.nil_append]) (by dsimp only [List.cons_append, List.nil_append]) ?_
  try dsimp only at hi hg hp ⊢
  refine w_seq ?_
  refine w_seq ?_
  refine w_region ?_
  refine wl_det rfl rfl rfl (op_move rfl) ?_
  refine wl_det rfl rfl rfl (op_move rfl) ?_
  refine wl_det rfl rfl rfl (op_lenT rfl tS39q (Sl.ent (by first | exact Sl.app (by assumption) _ | exact Sl.app (Sl.app (by assumption) _) _))) ?_
  refine wl_det rfl rfl rfl (op_lss rfl rfl) ?_
  refine wl_det rfl rfl rfl (op_move rfl) ?_
  refine wl_gsplit (t := 38) rfl (fun hg38 => ?_) (fun hg38 => ?_)
  · -- 38 is True
    obtain ⟨z, hz⟩ := getE (l := L) (i := i) (by omega)
    have hzm := List.mem_of_getElem? hz
    refine wl_wanted_det rfl rfl rfl rfl rfl rfl rfl (op_move rfl) ?_
    refine wl_wanted_det rfl rfl rfl rfl rfl rfl rfl (op_lss rfl rfl) ?_
    refine wl_det rfl rfl rfl (op_pick_t rfl rfl) ?_
    refine wl_nil ?_
    refine st_tn ?_
    refine w_cond_d rfl (fun hc41 => ?_) (fun hc41 => ?_)
    · -- c41.t
      refine w_skip ?_
      refine st_tn ?_
      refine w_seq ?_
      refine w_block ?_
      refine w_region ?_
      refine wl_det rfl rfl rfl (op_move rfl) ?_
      refine wl_det rfl rfl rfl (op_move rfl) ?_
      refine wl_det rfl rfl rfl (op_move rfl) ?_
      refine wl_det rfl rfl rfl (op_move rfl) ?_
      refine wl_det rfl rfl rfl (op_idx rfl rfl tS39q (Sl.ent (by first | exact Sl.app (by assumption) _ | exact Sl.app (Sl.app (by assumption) _) _)) (by omega)) ?_
      refine wl_det rfl rfl rfl (op_ldxA rfl tA43q (by first | exact Sl.app (by assumption) _ | exact Sl.app (Sl.app (by assumption) _) _) (by assumption) (by rfl) (by rfl)) ?_
      refine wl_op [601, 602, 603, 604] rfl rfl rfl rfl (op_fn Try.func24 rfl rfl rfl (perform_any (x := z.x) hg hp (hL.ok z hzm) (Sl.app (hL.sc z hzm) _))) ?_
      rintro _ _ ⟨rfl, l41, a41, m41, c41, hp41, rfl⟩
      refine wl_nil ?_
      refine st_bn ?_
      refine st_tn ?_
      refine w_region ?_
      refine wl_det rfl rfl rfl (op_move rfl) ?_
      refine wl_det rfl rfl rfl (op_add' rfl rfl (by omega)) ?_
      refine wl_det rfl rfl rfl (op_assign rfl) ?_
      refine wl_nil ?_
      refine st_roundQ (x := (i, S, l_S, a_S, m_S, c_S)) ((i + 1, perfS S z.x, l41, a41, m41, c41)) [601, 602, 603, 604, 5] rfl (rfl) (.cons rfl (.nil _)) (.cons rfl (.cons rfl (.cons rfl (.cons rfl (.nil _))))) (by
          try dsimp only
          exact ⟨by omega, Good.perf hg (hL.ok z hzm), hp41⟩) (by
          try dsimp only
          omega) 
    · -- c41.f
      refine w_exit ?_
      refine st_te ?_
      refine st_te ?_
      refine st_be ?_
      refine st_tn ?_
      refine w_seq ?_
      refine w_region ?_
      refine wl_det rfl rfl rfl (op_move rfl) ?_
      refine wl_op [601, 602] rfl rfl rfl rfl (op_fn Try.func26 rfl rfl rfl (sta_to (s := S) (sc := []) rfl hg hp Sl.nilv)) ?_
      rintro _ _ ⟨l52, hp52, rfl, rfl⟩
      refine wl_nil ?_
      refine st_tn ?_
      refine w_seq ?_
      have hd1 := sta_up_ S []
      have hg1 := hg.sta []
      generalize staO S [] = U at hd1 hg1 hp52 ⊢
      have hg2 := hg1.lim_ (k := 9) (by decide)
      refine w_region ?_
      refine wl_det rfl rfl rfl (op_move rfl) ?_
      refine wl_op [601] rfl rfl rfl rfl (op_fn Try.func19 rfl rfl rfl (limit_any U 9)) ?_
      rintro _ _ ⟨rfl, rfl⟩
      refine wl_nil ?_
      refine st_tn ?_
      refine w_seq ?_
      refine w_drawW (fun β => [⟨55, [], [], [], noW (_), false, [], []⟩, ⟨56, [0], [], [], noW (_), false, [], []⟩, ⟨57, [1], [], [], noW (_), false, [], []⟩, ⟨58, [], [], [], noW (_), false, [], []⟩, ⟨59, [3], [], [], noW (_), false, [], []⟩]) [] [5] [⟨55, [], [], false, [], []⟩, ⟨56, [0], [], false, [], []⟩, ⟨57, [1], [], false, [], []⟩, ⟨58, [], [], false, [], []⟩, ⟨59, [3], [], false, [], []⟩] [[], [], [], [], []] [[], [], [], [], []] tMixq (fun _ => by rfl) (fun _ => by rfl) (by kernel_rfl) (by kernel_rfl) (by rfl) (by rfl)
          (fun β => ⟨.p rfl (by intro X; exact op_idxArr (i := 0) rfl rfl tR56q (Nat.le_of_ble_eq_true rfl)),
          ⟨.p rfl (by intro X; rintro _ _ ⟨rfl, rfl⟩; exact op_load1 rfl tO5q (Ent.lab (l := 5) rfl (says_cel 0))),
          ⟨.p rfl (by intro X; rintro _ _ ⟨rfl, rfl⟩; exact op_fn Try.func20 rfl rfl rfl (name_any _ hx)),
          ⟨.p rfl (by intro X; exact op_idxArr (i := 1) rfl rfl tR56q (Nat.le_of_ble_eq_true rfl)),
          ⟨.p rfl (by intro X; rintro _ _ ⟨rfl, rfl⟩; exact op_load1 rfl tO5q (Ent.lab (l := 5) rfl (says_cel 1))),
          trivial⟩⟩⟩⟩⟩)
          (fun β β' => ⟨fun _ => by rfl, ⟨fun _ => by rfl, ⟨fun _ => by rfl, ⟨fun _ => by rfl, ⟨fun _ => by rfl, trivial⟩⟩⟩⟩⟩) ?_
      intro β
      rintro _ _ ⟨rfl, rfl⟩ _ _ ⟨rfl, rfl⟩ _ _ ⟨rfl, rfl⟩ _ _ ⟨rfl, rfl⟩ _ _ ⟨rfl, rfl⟩
      refine wl_norm (e' := [(7, _), (57, _), (59, _)]) (.cons rfl (.cons rfl (.cons rfl (.nil _)))) (by dsimp only [cond_false, cond_true, List.nil_append, List.cons_append]) ?_
      refine wl_det rfl rfl rfl (op_fn Try.func20 rfl rfl rfl (name_any _ hy)) ?_
      refine wl_det rfl rfl rfl (op_assign rfl) ?_
      refine wl_det rfl rfl rfl (op_assign rfl) ?_
      refine wl_nil ?_
      refine st_tn ?_
      refine w_seq ?_
      refine w_region ?_
      refine wl_det rfl rfl rfl (op_move rfl) ?_
      refine wl_det rfl rfl rfl (op_move rfl) ?_
      refine wl_det rfl rfl rfl (op_fn Try.func28 rfl rfl rfl (read_any (s := limO U 9) (m := m9) (nmN x) hg2 hp52 (nm_max _) (celD 601 rfl) (Mr.lab 602 rfl))) ?_
      refine wl_det rfl rfl rfl (op_move rfl) ?_
      refine wl_det rfl rfl rfl (op_extract rfl rfl) ?_
      refine wl_det rfl rfl rfl (op_extract rfl rfl) ?_
      refine wl_det rfl rfl rfl (op_assign rfl) ?_
      refine wl_det rfl rfl rfl (op_assign rfl) ?_
      refine wl_nil ?_
      refine st_tn ?_
      refine w_seq ?_
      refine w_region ?_
      refine wl_det rfl rfl rfl (op_move rfl) ?_
      refine wl_det rfl rfl rfl (op_move rfl) ?_
      refine wl_det rfl rfl rfl (op_fn Try.func28 rfl rfl rfl (read_any (s := limO U 9) (m := m9) (nmN y) hg2 hp52 (nm_max _) (celD 601 rfl) (Mr.lab 602 rfl))) ?_
      refine wl_det rfl rfl rfl (op_move rfl) ?_
      refine wl_det rfl rfl rfl (op_extract rfl rfl) ?_
      refine wl_det rfl rfl rfl (op_extract rfl rfl) ?_
      refine wl_det rfl rfl rfl (op_assign rfl) ?_
      refine wl_det rfl rfl rfl (op_assign rfl) ?_
      refine wl_nil ?_
      refine st_tn ?_
      refine w_seq ?_
      refine w_region ?_
      refine wl_det rfl rfl rfl (op_move rfl) ?_
      refine wl_op [] rfl rfl rfl rfl (op_fn Try.func29 rfl rfl rfl (clone_any 701 702 (celD (s := limO U 9) 601 rfl) (Mr.lab 602 rfl))) ?_
      rintro _ _ ⟨b74, m74, rfl, rfl⟩
      refine wl_det rfl rfl rfl (op_assign rfl) ?_
      refine wl_nil ?_
      refine st_tn ?_
      refine w_seq ?_
      refine w_seq ?_
      refine w_region ?_
      refine wl_det rfl rfl rfl (op_move rfl) ?_
      refine wl_det rfl rfl rfl (op_val (v' := .bool false) (by simp) (op_eqPtr rfl Try.underlying22)) ?_
      refine wl_det rfl rfl rfl (op_move rfl) ?_
      refine wl_wanted_det rfl rfl rfl rfl rfl rfl rfl (op_move rfl) ?_
      refine wl_wanted_det rfl rfl rfl rfl rfl rfl rfl (op_neq rfl rfl) ?_
      refine wl_det rfl rfl rfl (op_pick_f rfl rfl) ?_
      refine wl_det rfl rfl rfl (op_move rfl) ?_
      refine wl_gsplit (t := 81) rfl (fun hg81 => ?_) (fun hg81 => ?_)
      · -- 81 is True
        refine wl_unwanted rfl rfl rfl rfl rfl rfl rfl rfl ?_
        refine wl_unwanted rfl rfl rfl rfl rfl rfl rfl rfl ?_
        refine wl_det rfl rfl rfl (op_pick_t rfl rfl) ?_
        refine wl_nil ?_
        refine st_tn ?_
        refine w_cond_t (rfl) ?_
        refine w_seq ?_
        refine w_region ?_
        refine wl_det rfl rfl rfl (op_move rfl) ?_
        refine wl_det rfl rfl rfl (op_val (v' := .bool true) (by simp) (op_nePtr rfl Try.underlying22)) ?_
        refine wl_det rfl rfl rfl (op_assign rfl) ?_
        refine wl_nil ?_
        refine st_tn ?_
        refine w_ret ?_
        refine st_tr ?_
        refine st_ret (vs := [_]) [] Try.results9 ⟨rfl, trivial⟩ rfl ?_
        refine ⟨_, rfl, ?_⟩
        exact ⟨rfl, rfl⟩
      · -- 81 is False
        refine wl_wanted_det rfl rfl rfl rfl rfl rfl rfl (op_move rfl) ?_
        refine wl_wanted_det rfl rfl rfl rfl rfl rfl rfl (op_neq rfl rfl) ?_
        refine wl_det rfl rfl rfl (op_pick_f rfl rfl) ?_
        refine wl_nil ?_
        refine st_tn ?_
        refine w_cond_d rfl (fun hc84 => ?_) (fun hc84 => ?_)
        · -- c84.t
          refine w_seq ?_
          refine w_region ?_
          refine wl_det rfl rfl rfl (op_move rfl) ?_
          refine wl_det rfl rfl rfl (op_val (v' := .bool true) (by simp) (op_nePtr rfl Try.underlying22)) ?_
          refine wl_det rfl rfl rfl (op_assign rfl) ?_
          refine wl_nil ?_
          refine st_tn ?_
          refine w_ret ?_
          refine st_tr ?_
          refine st_ret (vs := [_]) [] Try.results9 ⟨rfl, trivial⟩ rfl ?_
          refine ⟨_, rfl, ?_⟩
          exact ⟨rfl, rfl⟩
        · -- c84.f
          obtain ⟨ha, f, hfa⟩ := read_found hg81
          obtain ⟨hb, hfb⟩ := read_lost (s := limO U 9) (n := nmN y) (d := false) (by omega)
          obtain ⟨e1, e2, e3⟩ := ren_laws hg1 hd1 (a := nmN x) (b := nmN y) ha hb hfa hfb
          have hq1 : DskM.Good { limO U 9 with fs := setS (delS U.fs (nmN x)) (nmN y) f, left := 8 } := by have := hg2.ren (nmN x) (nmN y); rwa [e1] at this
          have hne : ¬ ({ limO U 9 with fs := setS (delS U.fs (nmN x)) (nmN y) f, left := 8 } : DskM.St) = limO U 9 := fun e => by
            have h8 : (8 : Int) = max 9 0 := congrArg DskM.St.left e; exact absurd h8 (by decide)
          have hq2 : DskM.Good { limO U 9 with left := 7 } := by have := hq1.ren (nmN y) (nmN x); rwa [e2] at this
          refine w_skip ?_
          refine st_tn ?_
          refine w_seq ?_
          refine w_seq ?_
          refine w_region ?_
          refine wl_det rfl rfl rfl (op_move rfl) ?_
          refine wl_det rfl rfl rfl (op_move rfl) ?_
          refine wl_det rfl rfl rfl (op_move rfl) ?_
          refine wl_op [601, 602] rfl rfl rfl rfl (op_fn Try.func22 rfl rfl rfl (ren_to e1 hg2 hp52 (nm_max _) (nm_max _))) ?_
          rintro _ _ ⟨l90, hp90, rfl, rfl⟩
          refine wl_det rfl rfl rfl (op_val (v' := .bool false) (by simp) (op_neq rfl rfl)) ?_
          refine wl_det rfl rfl rfl (op_move rfl) ?_
          refine wl_wanted_det rfl rfl rfl rfl rfl rfl rfl (op_move rfl) ?_
          refine wl_wanted_det rfl rfl rfl rfl rfl rfl rfl (op_move rfl) ?_
          refine wl_openM 602 rfl (fun bs1 ck1 hwf1 => ?_)
          refine wl_wanted_det rfl rfl rfl rfl rfl rfl rfl (op_val (v' := .bool false) (by rw [decide_eq_false hne]) (op_fn Try.func30 rfl rfl rfl (equal_any (s := { limO U 9 with fs := setS (delS U.fs (nmN x)) (nmN y) f, left := 8 }) (t := limO U 9) hq1 hg2 hp90 hp52 (celD 601 rfl) (celD 701 rfl) (Me.lab 602 rfl) (Mr.lab 702 rfl)))) ?_
          refine wl_det rfl rfl rfl (op_pick_f rfl rfl) ?_
          refine wl_det rfl rfl rfl (op_move rfl) ?_
          refine wl_wanted_det rfl rfl rfl rfl rfl rfl rfl (op_move rfl) ?_
          refine wl_wanted_det rfl rfl rfl rfl rfl rfl rfl (op_move rfl) ?_
          refine wl_wanted_det rfl rfl rfl rfl rfl rfl rfl (op_move rfl) ?_
          refine wl_wk 602 (mp KL encF m9 l90) rfl mpE_mp ?_
          refine wl_wanted [601, 602] rfl rfl rfl rfl rfl rfl rfl rfl (op_fn Try.func22 rfl rfl rfl (ren_to e2 hq1 hp90 (nm_max _) (nm_max _))) ?_
          rintro _ _ ⟨l101, hp101, rfl, rfl⟩
          refine wl_wanted_det rfl rfl rfl rfl rfl rfl rfl (op_val (v' := .bool false) (by simp) (op_neq rfl rfl)) ?_
          refine wl_det rfl rfl rfl (op_pick_f rfl rfl) ?_
          refine wl_det rfl rfl rfl (op_move rfl) ?_
          refine wl_wanted_det rfl rfl rfl rfl rfl rfl rfl (op_move rfl) ?_
          refine wl_wanted_det rfl rfl rfl rfl rfl rfl rfl (op_move rfl) ?_
          refine wl_wanted_det rfl rfl rfl rfl rfl rfl rfl (op_move rfl) ?_
          refine wl_wanted [601, 602] rfl rfl rfl rfl rfl rfl rfl rfl (op_fn Try.func22 rfl rfl rfl (ren_to e3 hq2 hp101 (nm_max _) (nm_max _))) ?_
          rintro _ _ ⟨l108, hp108, rfl, rfl⟩
          refine wl_wanted_det rfl rfl rfl rfl rfl rfl rfl (op_val (v' := .bool false) (by simp) (op_neq rfl rfl)) ?_
          refine wl_det rfl rfl rfl (op_pick_f rfl rfl) ?_
          refine wl_nil ?_
          refine st_tn ?_
          refine w_cond_f (rfl) ?_
          refine w_skip ?_
          refine st_tn ?_
          refine w_seq ?_
          refine w_region ?_
          refine wl_det rfl rfl rfl (op_move rfl) ?_
          refine wl_op [601] rfl rfl rfl rfl (op_fn Try.func19 rfl rfl rfl (limit_any { limO U 9 with left := 6 } 9)) ?_
          rintro _ _ ⟨rfl, rfl⟩
          refine wl_nil ?_
          refine st_tn ?_
          refine w_seq ?_
          refine w_openM 602 rfl (fun bs3 ck3 hwf3 => ?_)
          refine w_openM 702 rfl (fun bs4 ck4 hwf4 => ?_)
          refine w_region ?_
          refine wl_det rfl rfl rfl (op_move rfl) ?_
          refine wl_det rfl rfl rfl (op_move rfl) ?_
          refine wl_det rfl rfl rfl (op_val (v' := .bool true) (by simp) (op_fn Try.func30 rfl rfl rfl (equal_any (s := limO U 9) (t := limO U 9) hg2 hg2 hp108 hp52 (celD 601 rfl) (celD 701 rfl) (Me.lab 602 rfl) (Mr.ofMe (Me.lab 702 rfl))))) ?_
          refine wl_det rfl rfl rfl (op_move rfl) ?_
          refine wl_wanted_det rfl rfl rfl rfl rfl rfl rfl (op_move rfl) ?_
          refine wl_wanted_det rfl rfl rfl rfl rfl rfl rfl (op_move rfl) ?_
          refine wl_wanted_det rfl rfl rfl rfl rfl rfl rfl (op_val (v' := .bool true) (by simp) (op_fn Try.func30 rfl rfl rfl (equal_any (s := limO U 9) (t := limO U 9) hg2 hg2 hp52 hp108 (celD 701 rfl) (celD 601 rfl) (Me.lab 702 rfl) (Mr.ofMe (Me.lab 602 rfl))))) ?_
          refine wl_det rfl rfl rfl (op_pick_t rfl rfl) ?_
          refine wl_det rfl rfl rfl (op_assign rfl) ?_
          refine wl_nil ?_
          refine st_tn ?_
          refine w_ret ?_
          refine st_ret (vs := [_]) [] Try.results9 ⟨rfl, trivial⟩ rfl ?_
          refine ⟨_, rfl, ?_⟩
          exact ⟨rfl, rfl⟩
  · -- 38 is False
    refine wl_unwanted rfl rfl rfl rfl rfl rfl rfl rfl ?_
    refine wl_unwanted rfl rfl rfl rfl rfl rfl rfl rfl ?_
    refine wl_det rfl rfl rfl (op_pick_f rfl rfl) ?_
    refine wl_nil ?_
    refine st_tn ?_
    refine w_cond_f (rfl) ?_
    refine w_exit ?_
    refine st_te ?_
    refine st_te ?_
    refine st_be ?_
    refine st_tn ?_
    refine w_seq ?_
    refine w_region ?_
    refine wl_det rfl rfl rfl (op_move rfl) ?_
    refine wl_op [601, 602] rfl rfl rfl rfl (op_fn Try.func26 rfl rfl rfl (sta_to (s := S) (sc := []) rfl hg hp Sl.nilv)) ?_
    rintro _ _ ⟨l52, hp52, rfl, rfl⟩
    refine wl_nil ?_
    refine st_tn ?_
    refine w_seq ?_
    have hd1 := sta_up_ S []
    have hg1 := hg.sta []
    generalize staO S [] = U at hd1 hg1 hp52 ⊢
    have hg2 := hg1.lim_ (k := 9) (by decide)
    refine w_region ?_
    refine wl_det rfl rfl rfl (op_move rfl) ?_
    refine wl_op [601] rfl rfl rfl rfl (op_fn Try.func19 rfl rfl rfl (limit_any U 9)) ?_
    rintro _ _ ⟨rfl, rfl⟩
    refine wl_nil ?_
    refine st_tn ?_
    refine w_seq ?_
    refine w_drawW (fun β => [⟨55, [], [], [], noW (_), false, [], []⟩, ⟨56, [0], [], [], noW (_), false, [], []⟩, ⟨57, [1], [], [], noW (_), false, [], []⟩, ⟨58, [], [], [], noW (_), false, [], []⟩, ⟨59, [3], [], [], noW (_), false, [], []⟩]) [] [5] [⟨55, [], [], false, [], []⟩, ⟨56, [0], [], false, [], []⟩, ⟨57, [1], [], false, [], []⟩, ⟨58, [], [], false, [], []⟩, ⟨59, [3], [], false, [], []⟩] [[], [], [], [], []] [[], [], [], [], []] tMixq (fun _ => by rfl) (fun _ => by rfl) (by kernel_rfl) (by kernel_rfl) (by rfl) (by rfl)
        (fun β => ⟨.p rfl (by intro X; exact op_idxArr (i := 0) rfl rfl tR56q (Nat.le_of_ble_eq_true rfl)),
        ⟨.p rfl (by intro X; rintro _ _ ⟨rfl, rfl⟩; exact op_load1 rfl tO5q (Ent.lab (l := 5) rfl (says_cel 0))),
        ⟨.p rfl (by intro X; rintro _ _ ⟨rfl, rfl⟩; exact op_fn Try.func20 rfl rfl rfl (name_any _ hx)),
        ⟨.p rfl (by intro X; exact op_idxArr (i := 1) rfl rfl tR56q (Nat.le_of_ble_eq_true rfl)),
        ⟨.p rfl (by intro X; rintro _ _ ⟨rfl, rfl⟩; exact op_load1 rfl tO5q (Ent.lab (l := 5) rfl (says_cel 1))),
        trivial⟩⟩⟩⟩⟩)
        (fun β β' => ⟨fun _ => by rfl, ⟨fun _ => by rfl, ⟨fun _ => by rfl, ⟨fun _ => by rfl, ⟨fun _ => by rfl, trivial⟩⟩⟩⟩⟩) ?_
    intro β
    rintro _ _ ⟨rfl, rfl⟩ _ _ ⟨rfl, rfl⟩ _ _ ⟨rfl, rfl⟩ _ _ ⟨rfl, rfl⟩ _ _ ⟨rfl, rfl⟩
    refine wl_norm (e' := [(7, _), (57, _), (59, _)]) (.cons rfl (.cons rfl (.cons rfl (.nil _)))) (by dsimp only [cond_false, cond_true, List.nil_append, List.cons_append]) ?_
    refine wl_det rfl rfl rfl (op_fn Try.func20 rfl rfl rfl (name_any _ hy)) ?_
    refine wl_det rfl rfl rfl (op_assign rfl) ?_
    refine wl_det rfl rfl rfl (op_assign rfl) ?_
    refine wl_nil ?_
    refine st_tn ?_
    refine w_seq ?_
    refine w_region ?_
    refine wl_det rfl rfl rfl (op_move rfl) ?_
    refine wl_det rfl rfl rfl (op_move rfl) ?_
    refine wl_det rfl rfl rfl (op_fn Try.func28 rfl rfl rfl (read_any (s := limO U 9) (m := m9) (nmN x) hg2 hp52 (nm_max _) (celD 601 rfl) (Mr.lab 602 rfl))) ?_
    refine wl_det rfl rfl rfl (op_move rfl) ?_
    refine wl_det rfl rfl rfl (op_extract rfl rfl) ?_
    refine wl_det rfl rfl rfl (op_extract rfl rfl) ?_
    refine wl_det rfl rfl rfl (op_assign rfl) ?_
    refine wl_det rfl rfl rfl (op_assign rfl) ?_
    refine wl_nil ?_
    refine st_tn ?_
    refine w_seq ?_
    refine w_region ?_
    refine wl_det rfl rfl rfl (op_move rfl) ?_
    refine wl_det rfl rfl rfl (op_move rfl) ?_
    refine wl_det rfl rfl rfl (op_fn Try.func28 rfl rfl rfl (read_any (s := limO U 9) (m := m9) (nmN y) hg2 hp52 (nm_max _) (celD 601 rfl) (Mr.lab 602 rfl))) ?_
    refine wl_det rfl rfl rfl (op_move rfl) ?_
    refine wl_det rfl rfl rfl (op_extract rfl rfl) ?_
    refine wl_det rfl rfl rfl (op_extract rfl rfl) ?_
    refine wl_det rfl rfl rfl (op_assign rfl) ?_
    refine wl_det rfl rfl rfl (op_assign rfl) ?_
    refine wl_nil ?_
    refine st_tn ?_
    refine w_seq ?_
    refine w_region ?_
    refine wl_det rfl rfl rfl (op_move rfl) ?_
    refine wl_op [] rfl rfl rfl rfl (op_fn Try.func29 rfl rfl rfl (clone_any 701 702 (celD (s := limO U 9) 601 rfl) (Mr.lab 602 rfl))) ?_
    rintro _ _ ⟨b74, m74, rfl, rfl⟩
    refine wl_det rfl rfl rfl (op_assign rfl) ?_
    refine wl_nil ?_
    refine st_tn ?_
    refine w_seq ?_
    refine w_seq ?_
    refine w_region ?_
    refine wl_det rfl rfl rfl (op_move rfl) ?_
    refine wl_det rfl rfl rfl (op_val (v' := .bool false) (by simp) (op_eqPtr rfl Try.underlying22)) ?_
    refine wl_det rfl rfl rfl (op_move rfl) ?_
    refine wl_wanted_det rfl rfl rfl rfl rfl rfl rfl (op_move rfl) ?_
    refine wl_wanted_det rfl rfl rfl rfl rfl rfl rfl (op_neq rfl rfl) ?_
    refine wl_det rfl rfl rfl (op_pick_f rfl rfl) ?_
    refine wl_det rfl rfl rfl (op_move rfl) ?_
    refine wl_gsplit (t := 81) rfl (fun hg81 => ?_) (fun hg81 => ?_)
    · -- 81 is True
      refine wl_unwanted rfl rfl rfl rfl rfl rfl rfl rfl ?_
      refine wl_unwanted rfl rfl rfl rfl rfl rfl rfl rfl ?_
      refine wl_det rfl rfl rfl (op_pick_t rfl rfl) ?_
      refine wl_nil ?_
      refine st_tn ?_
      refine w_cond_t (rfl) ?_
      refine w_seq ?_
      refine w_region ?_
      refine wl_det rfl rfl rfl (op_move rfl) ?_
      refine wl_det rfl rfl rfl (op_val (v' := .bool true) (by simp) (op_nePtr rfl Try.underlying22)) ?_
      refine wl_det rfl rfl rfl (op_assign rfl) ?_
      refine wl_nil ?_
      refine st_tn ?_
      refine w_ret ?_
      refine st_tr ?_
      refine st_ret (vs := [_]) [] Try.results9 ⟨rfl, trivial⟩ rfl ?_
      refine ⟨_, rfl, ?_⟩
      exact ⟨rfl, rfl⟩
    · -- 81 is False
      refine wl_wanted_det rfl rfl rfl rfl rfl rfl rfl (op_move rfl) ?_
      refine wl_wanted_det rfl rfl rfl rfl rfl rfl rfl (op_neq rfl rfl) ?_
      refine wl_det rfl rfl rfl (op_pick_f rfl rfl) ?_
      refine wl_nil ?_
      refine st_tn ?_
      refine w_cond_d rfl (fun hc84 => ?_) (fun hc84 => ?_)
      · -- c84.t
        refine w_seq ?_
        refine w_region ?_
        refine wl_det rfl rfl rfl (op_move rfl) ?_
        refine wl_det rfl rfl rfl (op_val (v' := .bool true) (by simp) (op_nePtr rfl Try.underlying22)) ?_
        refine wl_det rfl rfl rfl (op_assign rfl) ?_
        refine wl_nil ?_
        refine st_tn ?_
        refine w_ret ?_
        refine st_tr ?_
        refine st_ret (vs := [_]) [] Try.results9 ⟨rfl, trivial⟩ rfl ?_
        refine ⟨_, rfl, ?_⟩
        exact ⟨rfl, rfl⟩
      · -- c84.f
        obtain ⟨ha, f, hfa⟩ := read_found hg81
        obtain ⟨hb, hfb⟩ := read_lost (s := limO U 9) (n := nmN y) (d := false) (by omega)
        obtain ⟨e1, e2, e3⟩ := ren_laws hg1 hd1 (a := nmN x) (b := nmN y) ha hb hfa hfb
        have hq1 : DskM.Good { limO U 9 with fs := setS (delS U.fs (nmN x)) (nmN y) f, left := 8 } := by have := hg2.ren (nmN x) (nmN y); rwa [e1] at this
        have hne : ¬ ({ limO U 9 with fs := setS (delS U.fs (nmN x)) (nmN y) f, left := 8 } : DskM.St) = limO U 9 := fun e => by
          have h8 : (8 : Int) = max 9 0 := congrArg DskM.St.left e; exact absurd h8 (by decide)
        have hq2 : DskM.Good { limO U 9 with left := 7 } := by have := hq1.ren (nmN y) (nmN x); rwa [e2] at this
        refine w_skip ?_
        refine st_tn ?_
        refine w_seq ?_
        refine w_seq ?_
        refine w_region ?_
        refine wl_det rfl rfl rfl (op_move rfl) ?_
        refine wl_det rfl rfl rfl (op_move rfl) ?_
        refine wl_det rfl rfl rfl (op_move rfl) ?_
        refine wl_op [601, 602] rfl rfl rfl rfl (op_fn Try.func22 rfl rfl rfl (ren_to e1 hg2 hp52 (nm_max _) (nm_max _))) ?_
        rintro _ _ ⟨l90, hp90, rfl, rfl⟩
        refine wl_det rfl rfl rfl (op_val (v' := .bool false) (by simp) (op_neq rfl rfl)) ?_
        refine wl_det rfl rfl rfl (op_move rfl) ?_
        refine wl_wanted_det rfl rfl rfl rfl rfl rfl rfl (op_move rfl) ?_
        refine wl_wanted_det rfl rfl rfl rfl rfl rfl rfl (op_move rfl) ?_
        refine wl_openM 602 rfl (fun bs1 ck1 hwf1 => ?_)
        refine wl_wanted_det rfl rfl rfl rfl rfl rfl rfl (op_val (v' := .bool false) (by rw [decide_eq_false hne]) (op_fn Try.func30 rfl rfl rfl (equal_any (s := { limO U 9 with fs := setS (delS U.fs (nmN x)) (nmN y) f, left := 8 }) (t := limO U 9) hq1 hg2 hp90 hp52 (celD 601 rfl) (celD 701 rfl) (Me.lab 602 rfl) (Mr.lab 702 rfl)))) ?_
        refine wl_det rfl rfl rfl (op_pick_f rfl rfl) ?_
        refine wl_det rfl rfl rfl (op_move rfl) ?_
        refine wl_wanted_det rfl rfl rfl rfl rfl rfl rfl (op_move rfl) ?_
        refine wl_wanted_det rfl rfl rfl rfl rfl rfl rfl (op_move rfl) ?_
        refine wl_wanted_det rfl rfl rfl rfl rfl rfl rfl (op_move rfl) ?_
        refine wl_wk 602 (mp KL encF m9 l90) rfl mpE_mp ?_
        refine wl_wanted [601, 602] rfl rfl rfl rfl rfl rfl rfl rfl (op_fn Try.func22 rfl rfl rfl (ren_to e2 hq1 hp90 (nm_max _) (nm_max _))) ?_
        rintro _ _ ⟨l101, hp101, rfl, rfl⟩
        refine wl_wanted_det rfl rfl rfl rfl rfl rfl rfl (op_val (v' := .bool false) (by simp) (op_neq rfl rfl)) ?_
        refine wl_det rfl rfl rfl (op_pick_f rfl rfl) ?_
        refine wl_det rfl rfl rfl (op_move rfl) ?_
        refine wl_wanted_det rfl rfl rfl rfl rfl rfl rfl (op_move rfl) ?_
        refine wl_wanted_det rfl rfl rfl rfl rfl rfl rfl (op_move rfl) ?_
        refine wl_wanted_det rfl rfl rfl rfl rfl rfl rfl (op_move rfl) ?_
        refine wl_wanted [601, 602] rfl rfl rfl rfl rfl rfl rfl rfl (op_fn Try.func22 rfl rfl rfl (ren_to e3 hq2 hp101 (nm_max _) (nm_max _))) ?_
        rintro _ _ ⟨l108, hp108, rfl, rfl⟩
        refine wl_wanted_det rfl rfl rfl rfl rfl rfl rfl (op_val (v' := .bool false) (by simp) (op_neq rfl rfl)) ?_
        refine wl_det rfl rfl rfl (op_pick_f rfl rfl) ?_
        refine wl_nil ?_
        refine st_tn ?_
        refine w_cond_f (rfl) ?_
        refine w_skip ?_
        refine st_tn ?_
        refine w_seq ?_
        refine w_region ?_
        refine wl_det rfl rfl rfl (op_move rfl) ?_
        refine wl_op [601] rfl rfl rfl rfl (op_fn Try.func19 rfl rfl rfl (limit_any { limO U 9 with left := 6 } 9)) ?_
        rintro _ _ ⟨rfl, rfl⟩
        refine wl_nil ?_
        refine st_tn ?_
        refine w_seq ?_
        refine w_openM 602 rfl (fun bs3 ck3 hwf3 => ?_)
        refine w_openM 702 rfl (fun bs4 ck4 hwf4 => ?_)
        refine w_region ?_
        refine wl_det rfl rfl rfl (op_move rfl) ?_
        refine wl_det rfl rfl rfl (op_move rfl) ?_
        refine wl_det rfl rfl rfl (op_val (v' := .bool true) (by simp) (op_fn Try.func30 rfl rfl rfl (equal_any (s := limO U 9) (t := limO U 9) hg2 hg2 hp108 hp52 (celD 601 rfl) (celD 701 rfl) (Me.lab 602 rfl) (Mr.ofMe (Me.lab 702 rfl))))) ?_
        refine wl_det rfl rfl rfl (op_move rfl) ?_
        refine wl_wanted_det rfl rfl rfl rfl rfl rfl rfl (op_move rfl) ?_
        refine wl_wanted_det rfl rfl rfl rfl rfl rfl rfl (op_move rfl) ?_
        refine wl_wanted_det rfl rfl rfl rfl rfl rfl rfl (op_val (v' := .bool true) (by simp) (op_fn Try.func30 rfl rfl rfl (equal_any (s := limO U 9) (t := limO U 9) hg2 hg2 hp52 hp108 (celD 701 rfl) (celD 601 rfl) (Me.lab 702 rfl) (Mr.ofMe (Me.lab 602 rfl))))) ?_
        refine wl_det rfl rfl rfl (op_pick_t rfl rfl) ?_
        refine wl_det rfl rfl rfl (op_assign rfl) ?_
        refine wl_nil ?_
        refine st_tn ?_
        refine w_ret ?_
        refine st_ret (vs := [_]) [] Try.results9 ⟨rfl, trivial⟩ rfl ?_
        refine ⟨_, rfl, ?_⟩
        exact ⟨rfl, rfl⟩

end Go.Proofs.Ytjlbeakdgadpmaa
