/- Law Full (layer 26). Conditions: none. -/
import Derived.Test.YtjlbeakdgadpmaaD15
namespace Go.Proofs.Ytjlbeakdgadpmaa
open Go Go.SL Go.RowKit Go.DskM
set_option linter.unusedVariables false
set_option linter.unusedSimpArgs false
theorem tL29_3t : zerosB Try.prog 29 5 1 3 = some [Value.int .u8 0, Value.int .u8 0, Value.int .u8 0] := by kernel_rfl
theorem tM29t : makeB Try.prog 29 5 1 = some (Value.int .u8 0) := by kernel_rfl
theorem tO5t : oneB Try.prog 5 = true := by kernel_rfl
theorem tS29t : sliceB Try.prog 29 5 1 = true := by kernel_rfl

def nm (j : Nat) : Bs := [102, UInt8.ofNat (97 + j / 16), UInt8.ofNat (97 + j % 16)]
set_option maxRecDepth 100000 in
theorem nm_ok : ∀ i, i < 256 → nameB (nm i) = true := by decide +kernel
set_option maxRecDepth 100000 in
theorem nm_next : ∀ i, i < 255 → nm i < nm (i + 1) := by decide +kernel
theorem nm_lt : ∀ {i j : Nat}, j < i → i < 256 → nm j < nm i
  | 0, j, h, _ => absurd h (Nat.not_lt_zero j)
  | i + 1, j, h, hi => by
    rcases Nat.lt_or_eq_of_le (Nat.le_of_lt_succ h) with h1 | h1
    · exact lt_trans (nm_lt h1 (by omega)) (nm_next i (by omega))
    · subst h1; exact nm_next j (by omega)
def fullF (i : Nat) : Files := (List.range i).map fun j => (nm j, zeroF)
def fullS (n : Int) (i : Nat) : St := ⟨n, fullF i, false, false, 0⟩
theorem fullF_succ (i : Nat) : fullF (i + 1) = fullF i ++ [(nm i, zeroF)] := by unfold fullF; rw [List.range_succ, List.map_append]; rfl
theorem fullF_len (i : Nat) : (fullF i).length = i := by simp [fullF]
theorem fullF_mem {i : Nat} {p : Bs × Fl} (h : p ∈ fullF i) : ∃ j, j < i ∧ p = (nm j, zeroF) := by
  unfold fullF at h
  obtain ⟨j, hj, rfl⟩ := List.mem_map.1 h
  exact ⟨j, List.mem_range.1 hj, rfl⟩
theorem fullF_used : ∀ i, used (fullF i) = 0
  | 0 => rfl
  | i + 1 => by
    have := fullF_used i
    rw [fullF_succ]; unfold used at this ⊢; rw [List.map_append, List.sum_append, this]; rfl
theorem setS_last {k : Bs} {f : Fl} : ∀ {Q : Files}, (∀ p ∈ Q, p.1 < k) → setS Q k f = Q ++ [(k, f)]
  | [], _ => rfl
  | q :: Q, h => by
    have h1 := h q List.mem_cons_self
    unfold setS
    rw [if_neg (lt_asymm h1), if_neg (ne_of_lt h1).symm, setS_last fun p hp => h p (List.mem_cons_of_mem _ hp)]; rfl
theorem fullF_low {i : Nat} (h : i < 256) : ∀ p ∈ fullF i, p.1 < nm i := fun p hp => by
  obtain ⟨j, hj, rfl⟩ := fullF_mem hp; exact nm_lt hj h
theorem ready_up {s : St} {k : Bs} (hd : s.down = false) (hn : nameB k = true) : ¬ readyE s [k] ≠ 0 := by
  unfold readyE; rw [if_neg (by simp [hd]), if_pos (by simp [hn])]; simp
theorem oper_free {s : St} (h : s.lim = false) : oper s = (true, s) := by unfold oper; rw [if_neg (by simp [h])]
theorem full_step {n : Int} {i : Nat} (hi : i < 256) (hn : 0 ≤ n) : appO (fullS n i) (nm i) [] = (0, fullS n (i + 1)) := by
  have h1 : find (fullF i) (nm i) = none := find_none fun p hp => ne_of_lt (fullF_low hi p hp)
  have h2 : grown (fullS n i) (nm i) [] = fullS n (i + 1) := by
    unfold grown fullS; simp only; rw [h1, setS_last (fullF_low hi), fullF_succ]; rfl
  rw [app_done (ready_up rfl (nm_ok i hi)) (fun h => by have := h.2; rw [show (fullS n i).fs.length = i from fullF_len i] at this; omega) (by rw [show used (fullS n i).fs = 0 from fullF_used i]; show ¬ n < _; simp; omega), h2, oper_free rfl, if_pos rfl]
theorem fullF_inc : ∀ {i : Nat}, i ≤ 256 → DskM.Inc (fullF i)
  | 0, _ => List.Pairwise.nil
  | i + 1, h => by
    rw [fullF_succ]
    refine List.pairwise_append.2 ⟨fullF_inc (by omega), List.pairwise_singleton _ _, fun p hp q hq => ?_⟩
    simp at hq; subst hq; exact fullF_low (by omega) p hp
theorem full_find {j : Nat} (h : j < 256) : find (fullF 256) (nm j) = some zeroF := find_of (p := (nm j, zeroF)) (fullF_inc (Nat.le_refl _)) (List.mem_map.2 ⟨j, List.mem_range.2 h, rfl⟩)
theorem full_g : find (fullF 256) [103] = none := find_none fun p hp e => by
  obtain ⟨j, _, rfl⟩ := fullF_mem hp
  simp [nm] at e
def F1 (n : Int) (d : Bs) : St := { fullS n 256 with fs := setS (fullF 256) (nm 0) ⟨d, 0, false⟩ }
def F2 (n : Int) (d : Bs) : St := { F1 n d with fs := delS (F1 n d).fs (nm 0) }
theorem f1_inc (n : Int) (d : Bs) : DskM.Inc (F1 n d).fs := (fullF_inc (Nat.le_refl 256)).set (k := nm 0) (f := ⟨d, 0, false⟩)
theorem f1_used (n : Int) (d : Bs) : used (F1 n d).fs = d.length := by
  have := used_set (k := nm 0) (f := ⟨d, 0, false⟩) (fullF_inc (Nat.le_refl 256))
  rw [fullF_used, show lenOf (fullF 256) (nm 0) = 0 by unfold lenOf; rw [full_find (by decide)]; rfl] at this
  show used (setS (fullF 256) (nm 0) ⟨d, 0, false⟩) = _
  simpa using this
theorem f1_find0 (n : Int) (d : Bs) : find (F1 n d).fs (nm 0) = some ⟨d, 0, false⟩ := by
  show find (setS _ _ _) _ = _; rw [find_set (fullF_inc (Nat.le_refl 256)), if_pos rfl]
theorem f1_len (n : Int) (d : Bs) : (F1 n d).fs.length = 256 := by
  show (setS _ _ _).length = _
  rw [len_set (fullF_inc (Nat.le_refl 256)), full_find (by decide), fullF_len]; simp
theorem e_more (n : Int) : appO (fullS n 256) [103] [] = (6, fullS n 256) := app_limit (ready_up rfl (by decide)) full_g (by rw [show (fullS n 256).fs.length = 256 from fullF_len 256]; omega)
theorem e_all {n : Int} {d : Bs} (h : (d.length : Int) = n) : appO (fullS n 256) [102, 97, 97] d = (0, F1 n d) := by
  have h1 := full_find (j := 0) (by decide)
  have h2 : grown (fullS n 256) (nm 0) d = F1 n d := by
    unfold grown F1 fullS; simp only; rw [h1]; rfl
  have := app_done (s := fullS n 256) (n := nm 0) (d := d) (ready_up rfl (by decide)) (fun h => by rw [show find (fullS n 256).fs (nm 0) = some zeroF from h1] at h; simp at h) (by rw [show used (fullS n 256).fs = 0 from fullF_used _]; show ¬ n < _; simp; omega)
  rw [h2, oper_free rfl, if_pos rfl] at this
  exact this
theorem e_full {n : Int} {d : Bs} (h : (d.length : Int) = n) : appO (F1 n d) [102, 97, 98] [120] = (28, F1 n d) := by
  have h1 : find (F1 n d).fs (nm 1) = some zeroF := by
    show find (setS _ _ _) _ = _
    rw [find_set (fullF_inc (Nat.le_refl 256)), if_neg (by decide), full_find (by decide)]
  exact app_full (s := F1 n d) (n := nm 1) (ready_up rfl (by decide)) (fun h => by rw [h1] at h; simp at h) (by rw [f1_used]; show n < _; simp; omega)
theorem e_rem (n : Int) (d : Bs) : remO (F1 n d) [102, 97, 97] = (0, F2 n d) := by
  have := rem_done (s := F1 n d) (n := nm 0) (ready_up rfl (by decide)) (f1_find0 n d) (by rw [oper_free rfl])
  rw [oper_free rfl] at this
  exact this
theorem e_last {n : Int} {d : Bs} (h : (d.length : Int) = n) (hn : 1 ≤ n) : (appO (F2 n d) [103] [120]).1 = 0 := by
  have h1 : find (F2 n d).fs [103] = none := by
    show find (delS (setS _ _ _) _) _ = _
    rw [find_del, if_neg (by decide), find_set (fullF_inc (Nat.le_refl 256)), if_neg (by decide), full_g]
  have h2 : used (F2 n d).fs = 0 := by
    have := used_del (k := nm 0) (f1_inc n d)
    rw [show lenOf (F1 n d).fs (nm 0) = d.length by unfold lenOf; rw [f1_find0], f1_used] at this
    show used (delS (F1 n d).fs (nm 0)) = 0; omega
  have h3 : (F2 n d).fs.length ≤ 255 := by
    have := len_del1 (f1_find0 n d)
    rw [f1_len] at this
    show (delS (F1 n d).fs (nm 0)).length ≤ 255; omega
  rw [app_done (ready_up rfl (by decide)) (fun h => by have := h.2; omega) (by rw [h2]; show ¬ n < _; simp; omega), oper_free rfl]; rfl
theorem good_full {n : Int} (hn : 0 ≤ n ∧ n ≤ 67108864) : ∀ {i : Nat}, i ≤ 256 → DskM.Good (fullS n i)
  | 0, _ => good_new hn
  | i + 1, h => by
    have := (good_full hn (i := i) (by omega)).app (nm i) []
    rwa [full_step (by omega) hn.1] at this
theorem u8_add {x : Nat} (h : x ≤ 100) : IntKind.u8.wrap (97 + (((UInt8.ofNat x).toNat : Nat) : Int)) = (((UInt8.ofNat (97 + x)).toNat : Nat) : Int) := by
  have h1 : (UInt8.ofNat x).toNat = x := by rw [UInt8.toNat_ofNat']; omega
  have h2 : (UInt8.ofNat (97 + x)).toNat = 97 + x := by rw [UInt8.toNat_ofNat']; omega
  rw [h1, h2]
  simp [IntKind.wrap, IntKind.bits, IntKind.signed]; omega
-- CALL sleuth/sleuthlaw26.capacity capac_any n (by assumption)
set_option maxHeartbeats 4000000 in
set_option maxRecDepth 100000 in
theorem lawFull_any {σ : World} {F : List Res} (n : Int) (x : UInt8) (hn : 0 ≤ n ∧ n ≤ 255) : FnT Try.prog σ F 3 [.int .u8 n, .int .u8 (x.toNat : Nat)] [] (fun u ρ => u = .bool true ∧ ρ = []) := by
  refine fn_of 90 Try.func3 rfl Try.ntmps3 rfl ?_
  have hcp : 0 ≤ 20 + n ∧ 20 + n ≤ 67108864 := by omega
  refine w_seq ?_
  refine w_region ?_
  refine wl_det rfl rfl rfl (op_assign rfl) ?_
  refine wl_nil ?_
  refine st_tn ?_
  refine w_seq ?_
  refine w_region ?_
  refine wl_det rfl rfl rfl (op_move rfl) ?_
  refine wl_det rfl rfl rfl (op_fn Try.func13 rfl rfl rfl (capac_any n (by assumption))) ?_
  refine wl_op [] rfl rfl rfl rfl (op_fn Try.func12 rfl rfl rfl (new_ok (20 + n) 601 602 hcp)) ?_
  rintro _ _ ⟨b9, m9, rfl, rfl⟩
  refine wl_det rfl rfl rfl (op_move rfl) ?_
  refine wl_det rfl rfl rfl (op_extract rfl rfl) ?_
  refine wl_det rfl rfl rfl (op_extract rfl rfl) ?_
  refine wl_det rfl rfl rfl (op_assign rfl) ?_
  refine wl_det rfl rfl rfl (op_assign rfl) ?_
  refine wl_nil ?_
  refine st_tn ?_
  refine w_seq ?_
  refine w_seq ?_
  refine w_region ?_
  refine wl_det rfl rfl rfl (op_fn Try.func14 rfl rfl rfl (known_any)) ?_
  refine wl_det rfl rfl rfl (op_not_t rfl) ?_
  refine wl_det rfl rfl rfl (op_move rfl) ?_
  refine wl_wanted_det rfl rfl rfl rfl rfl rfl rfl (op_move rfl) ?_
  refine wl_wanted_det rfl rfl rfl rfl rfl rfl rfl (op_val (v' := .bool false) (by rfl) (op_neq rfl rfl)) ?_
  refine wl_det rfl rfl rfl (op_pick_f rfl rfl) ?_
  refine wl_nil ?_
  refine st_tn ?_
  refine w_cond_f (rfl) ?_
  refine w_skip ?_
  refine st_tn ?_
  refine w_seq ?_
  refine w_seq ?_
  refine w_region ?_
  refine wl_det rfl rfl rfl (op_assign rfl) ?_
  refine wl_nil ?_
  refine st_tn ?_
  refine w_block ?_
  refine w_loopQ (X := Nat × DskM.St × DskM.Files) (fun z => z.1 ≤ 256 ∧ z.2.1 = fullS (20 + n) z.1 ∧ z.2.2.Perm z.2.1.fs) (fun z => [(7, .int .i64 (z.1))]) (fun z => [(601, cel b9 (cellD (z.2.1) m9) 65), (602, mp KL encF m9 (z.2.2))]) (fun z => 256 - z.1) ((0, fullS (20 + n) 0, [])) [(0, _), (1, _), (5, _)] [] [601, 602] rfl (rfl) (.cons rfl (.nil _)) (.cons rfl (.cons rfl (.cons rfl (.nil _)))) (by
      try dsimp only
      exact ⟨by omega, rfl, List.Perm.refl _⟩) ?_
  rintro ⟨i, S, l_S⟩ ⟨hi, hS, hp⟩
  refine w_norm2 (by dsimp only [List.cons_append, List.nil_append]) (by dsimp only [List.cons_append, List.nil_append]) ?_
  try dsimp only at hi hS hp ⊢
  refine w_seq ?_
  refine w_seq ?_
  refine w_region ?_
  refine wl_det rfl rfl rfl (op_move rfl) ?_
  refine wl_det rfl rfl rfl (op_lss rfl rfl) ?_
  refine wl_nil ?_
  refine st_tn ?_
  refine w_cond_d rfl (fun hc26 => ?_) (fun hc26 => ?_)
  · -- c26.t
    have hstep : appO S (nm i) [] = (0, fullS (20 + n) (i + 1)) := by rw [hS]; exact full_step (by omega) hcp.1
    have hgS : DskM.Good S := by rw [hS]; exact good_full hcp hi
    refine w_skip ?_
    refine st_tn ?_
    refine w_seq ?_
    refine w_block ?_
    refine w_seq ?_
    refine w_region ?_
    refine wl_det rfl rfl rfl (op_move rfl) ?_
    refine wl_det rfl rfl rfl (op_move rfl) ?_
    refine wl_det rfl rfl rfl (op_val (v' := .int .i64 ((i / 16 : Nat) : Int)) (by rfl) (op_quoN rfl rfl (by omega) (by omega) (by omega))) ?_
    refine wl_det rfl rfl rfl (op_val (v' := .int .u8 ((UInt8.ofNat (i / 16)).toNat : Nat)) (by rfl) (op_convU rfl (by rw [Try.underlying3]; rfl) Try.underlying5 (by omega))) ?_
    refine wl_det rfl rfl rfl (op_val (v' := .int .u8 ((UInt8.ofNat (97 + i / 16)).toNat : Nat)) (by rw [u8_add (by omega)]) (op_add rfl rfl)) ?_
    refine wl_det rfl rfl rfl (op_move rfl) ?_
    refine wl_det rfl rfl rfl (op_val (v' := .int .i64 ((i % 16 : Nat) : Int)) (by rfl) (op_remN rfl rfl (by omega) (by omega))) ?_
    refine wl_det rfl rfl rfl (op_val (v' := .int .u8 ((UInt8.ofNat (i % 16)).toNat : Nat)) (by rfl) (op_convU rfl (by rw [Try.underlying3]; rfl) Try.underlying5 (by omega))) ?_
    refine wl_det rfl rfl rfl (op_val (v' := .int .u8 ((UInt8.ofNat (97 + i % 16)).toNat : Nat)) (by rw [u8_add (by omega)]) (op_add rfl rfl)) ?_
    refine wl_op [] rfl rfl rfl rfl (op_buildSlice (enc := encU) (l := [102, UInt8.ofNat (97 + i / 16), UInt8.ofNat (97 + i % 16)]) (lab := 38) tL29_3t rfl rfl (fun _ => rfl) rfl) ?_
    rintro _ _ ⟨a38, c38, rfl, rfl⟩
    refine wl_det rfl rfl rfl (op_bytesStr rfl Try.underlying29 Try.underlying5 Try.underlying9 (Sl.lab 38 rfl (by simp [maxLen]))) ?_
    refine wl_op [601, 602] rfl rfl rfl rfl (op_fn Try.func15 rfl rfl rfl (app_to (n := nm i) (d := []) hstep hgS hp (by show (3 : Nat) ≤ _; unfold maxLen; omega) (by show (0 : Nat) ≤ _; omega))) ?_
    rintro _ _ ⟨l40, hp40, rfl, rfl⟩
    refine wl_det rfl rfl rfl (op_val (v' := .bool false) (by simp) (op_neq rfl rfl)) ?_
    refine wl_nil ?_
    refine st_tn ?_
    refine w_cond_f (rfl) ?_
    refine w_skip ?_
    refine st_bn ?_
    refine st_tn ?_
    refine w_region ?_
    refine wl_det rfl rfl rfl (op_move rfl) ?_
    refine wl_det rfl rfl rfl (op_add' rfl rfl (by omega)) ?_
    refine wl_det rfl rfl rfl (op_assign rfl) ?_
    refine wl_nil ?_
    refine st_roundQ (x := (i, S, l_S)) ((i + 1, fullS (20 + n) (i + 1), l40)) [601, 602] rfl (rfl) (.cons rfl (.nil _)) (.cons rfl (.cons rfl (.cons rfl (.nil _)))) (by
        try dsimp only
        exact ⟨by omega, rfl, hp40⟩) (by
        try dsimp only
        omega) 
  · -- c26.f
    refine w_exit ?_
    refine st_te ?_
    refine st_te ?_
    refine st_be ?_
    refine st_tn ?_
    refine w_seq ?_
    have hi6 : i = 256 := by omega
    have hgS : DskM.Good S := by rw [hS]; exact good_full hcp hi
    rw [hi6] at hS
    refine w_region ?_
    refine wl_det rfl rfl rfl (op_move rfl) ?_
    refine wl_det rfl rfl rfl (op_val (v' := .int .i64 (((20 + n).toNat : Nat) : Int)) (by congr 1; omega) (op_fn Try.func13 rfl rfl rfl (capac_any n (by assumption)))) ?_
    refine wl_op [] rfl rfl rfl rfl (op_makeSlice (enc := encU) (a0 := 0) (lab := 44) rfl rfl tM29t (fun _ => rfl) rfl rfl (by omega) (by unfold maxLen; omega)) ?_
    rintro _ _ ⟨a44, c44, rfl, rfl⟩
    refine wl_det rfl rfl rfl (op_assign rfl) ?_
    refine wl_nil ?_
    refine st_tn ?_
    refine w_seq ?_
    refine w_seq ?_
    refine w_region ?_
    refine wl_det rfl rfl rfl (op_assign rfl) ?_
    refine wl_nil ?_
    refine st_tn ?_
    refine w_block ?_
    refine w_loopQ (X := List UInt8 × Nat) (fun z => z.2 ≤ (20 + n).toNat ∧ z.1.length = (20 + n).toNat) (fun z => [(9, .int .i64 (z.2))]) (fun z => [(44, slW 5 encU 1 (.slice a44 ((List.replicate (20 + n).toNat (0 : UInt8)).length) c44) (z.1))]) (fun z => (20 + n).toNat - z.2) ((List.replicate (20 + n).toNat 0, 0)) [(0, _), (1, _), (5, _), (8, _)] [(601, _), (602, _)] [44, 601, 602] rfl (rfl) (.cons rfl (.nil _)) (.cons rfl (.cons rfl (.cons rfl (.cons rfl (.nil _))))) (by
        try dsimp only
        exact ⟨Nat.zero_le _, by simp⟩) ?_
    rintro ⟨D, j⟩ ⟨hj, hD⟩
    refine w_norm2 (by dsimp only [List.cons_append, List.nil_append]) (by dsimp only [List.cons_append, List.nil_append]) ?_
    try dsimp only at hj hD ⊢
    refine w_seq ?_
    refine w_seq ?_
    refine w_region ?_
    refine wl_det rfl rfl rfl (op_move rfl) ?_
    refine wl_det rfl rfl rfl (op_move rfl) ?_
    refine wl_det rfl rfl rfl (op_lenT rfl tS29t (Sl.ent (Sl.lab 44 rfl (by unfold maxLen; omega)))) ?_
    refine wl_det rfl rfl rfl (op_lss rfl rfl) ?_
    refine wl_nil ?_
    refine st_tn ?_
    refine w_cond_d rfl (fun hc48 => ?_) (fun hc48 => ?_)
    · -- c48.t
      obtain ⟨y, hy⟩ := getE (l := D) (i := j) (by omega)
      refine w_skip ?_
      refine st_tn ?_
      refine w_seq ?_
      refine w_block ?_
      refine w_region ?_
      refine wl_det rfl rfl rfl (op_move rfl) ?_
      refine wl_det rfl rfl rfl (op_move rfl) ?_
      refine wl_det rfl rfl rfl (op_move rfl) ?_
      refine wl_det rfl rfl rfl (op_idx rfl rfl tS29t (Sl.ent (Sl.lab 44 rfl (by unfold maxLen; omega))) (by omega)) ?_
      refine wl_op0 [44] rfl rfl rfl (op_storeX (lab := 44) (j := 0) rfl rfl tO5t rfl rfl (by rfl) (by first | assumption | (simp [*]; done)) (Nat.le_of_ble_eq_true rfl) (by rfl)) ?_
      rintro _ _ ⟨rfl, rfl⟩
      refine wl_nil ?_
      refine st_bn ?_
      refine st_tn ?_
      refine w_region ?_
      refine wl_det rfl rfl rfl (op_move rfl) ?_
      refine wl_det rfl rfl rfl (op_add' rfl rfl (by omega)) ?_
      refine wl_det rfl rfl rfl (op_assign rfl) ?_
      refine wl_nil ?_
      refine st_roundQ (x := (D, j)) ((_, j + 1)) [44, 601, 602] rfl (rfl) (.cons rfl (.nil _)) (.cons rfl (.cons rfl (.cons rfl (.cons rfl (.nil _))))) (by
          try dsimp only
          exact ⟨by omega, by simp [hD]⟩) (by
          try dsimp only
          omega) 
    · -- c48.f
      refine w_exit ?_
      refine st_te ?_
      refine st_te ?_
      refine st_be ?_
      refine st_tn ?_
      refine w_seq ?_
      have hm := e_more (20 + n)
      have ha : appO (fullS (20 + n) 256) [102, 97, 97] D = (0, F1 (20 + n) D) := e_all (by omega)
      have hf : appO (F1 (20 + n) D) [102, 97, 98] [120] = (28, F1 (20 + n) D) := e_full (by omega)
      have hr := e_rem (20 + n) D
      have hl := e_last (n := 20 + n) (d := D) (by omega) (by omega)
      have hgF : DskM.Good (fullS (20 + n) 256) := by rw [← hS]; exact hgS
      have hg1 : DskM.Good (F1 (20 + n) D) := by have := hgF.app [102, 97, 97] D; rwa [ha] at this
      have hg2 : DskM.Good (F2 (20 + n) D) := by have := hg1.rem [102, 97, 97]; rwa [hr] at this
      have hu1 := f1_used (20 + n) D
      rw [← hS] at hm ha
      refine w_region ?_
      refine wl_det rfl rfl rfl (op_move rfl) ?_
      refine wl_op [601, 602] rfl rfl rfl rfl (op_fn Try.func15 rfl rfl rfl (app_to hm hgS hp (by decide) (by decide))) ?_
      rintro _ _ ⟨l56, hp56, rfl, rfl⟩
      refine wl_det rfl rfl rfl (op_assign rfl) ?_
      refine wl_nil ?_
      refine st_tn ?_
      refine w_seq ?_
      refine w_region ?_
      refine wl_det rfl rfl rfl (op_move rfl) ?_
      refine wl_det rfl rfl rfl (op_move rfl) ?_
      refine wl_det rfl rfl rfl (op_bytesStr rfl Try.underlying29 Try.underlying5 Try.underlying9 (Sl.lab 44 rfl (by unfold maxLen; omega))) ?_
      refine wl_op [601, 602] rfl rfl rfl rfl (op_fn Try.func15 rfl rfl rfl (app_to ha hgS hp56 (by decide) (by omega))) ?_
      rintro _ _ ⟨l60, hp60, rfl, rfl⟩
      refine wl_det rfl rfl rfl (op_assign rfl) ?_
      refine wl_nil ?_
      refine st_tn ?_
      refine w_seq ?_
      refine w_region ?_
      refine wl_det rfl rfl rfl (op_move rfl) ?_
      refine wl_op [601, 602] rfl rfl rfl rfl (op_fn Try.func15 rfl rfl rfl (app_to hf hg1 hp60 (by decide) (by decide))) ?_
      rintro _ _ ⟨l62, hp62, rfl, rfl⟩
      refine wl_det rfl rfl rfl (op_assign rfl) ?_
      refine wl_nil ?_
      refine st_tn ?_
      refine w_seq ?_
      refine w_region ?_
      refine wl_det rfl rfl rfl (op_move rfl) ?_
      refine wl_det rfl rfl rfl (op_val (v' := .bool true) (by simp) (op_eql rfl rfl)) ?_
      refine wl_det rfl rfl rfl (op_move rfl) ?_
      refine wl_wanted_det rfl rfl rfl rfl rfl rfl rfl (op_move rfl) ?_
      refine wl_wanted_det rfl rfl rfl rfl rfl rfl rfl (op_val (v' := .bool true) (by simp) (op_eql rfl rfl)) ?_
      refine wl_det rfl rfl rfl (op_pick_t rfl rfl) ?_
      refine wl_det rfl rfl rfl (op_move rfl) ?_
      refine wl_wanted_det rfl rfl rfl rfl rfl rfl rfl (op_move rfl) ?_
      refine wl_wanted_det rfl rfl rfl rfl rfl rfl rfl (op_val (v' := .bool true) (by simp) (op_eql rfl rfl)) ?_
      refine wl_det rfl rfl rfl (op_pick_t rfl rfl) ?_
      refine wl_det rfl rfl rfl (op_move rfl) ?_
      refine wl_wanted_det rfl rfl rfl rfl rfl rfl rfl (op_move rfl) ?_
      refine wl_openM 602 rfl (fun bs ck hwf => ?_)
      refine wl_wanted_det rfl rfl rfl rfl rfl rfl rfl (op_val (v' := .int .i64 (20 + n)) (by rw [show (F1 (20 + n) D).down = false from rfl, hu1, hD]; simp; omega) (op_fn Try.func16 rfl rfl rfl (used_any (s := F1 (20 + n) D) hg1 hp62 (celD 601 rfl) (Me.lab 602 rfl)))) ?_
      refine wl_wanted_det rfl rfl rfl rfl rfl rfl rfl (op_move rfl) ?_
      refine wl_wanted_det rfl rfl rfl rfl rfl rfl rfl (op_fn Try.func13 rfl rfl rfl (capac_any n (by assumption))) ?_
      refine wl_wanted_det rfl rfl rfl rfl rfl rfl rfl (op_val (v' := .bool true) (by simp) (op_eql rfl rfl)) ?_
      refine wl_det rfl rfl rfl (op_pick_t rfl rfl) ?_
      refine wl_det rfl rfl rfl (op_move rfl) ?_
      refine wl_wanted_det rfl rfl rfl rfl rfl rfl rfl (op_move rfl) ?_
      refine wl_wk 602 (mp KL encF m9 l62) rfl mpE_mp ?_
      refine wl_wanted [601, 602] rfl rfl rfl rfl rfl rfl rfl rfl (op_fn Try.func17 rfl rfl rfl (rem_to hr hg1 hp62 (by decide))) ?_
      rintro _ _ ⟨l82, hp82, rfl, rfl⟩
      refine wl_wanted_det rfl rfl rfl rfl rfl rfl rfl (op_val (v' := .bool true) (by simp) (op_eql rfl rfl)) ?_
      refine wl_det rfl rfl rfl (op_pick_t rfl rfl) ?_
      refine wl_det rfl rfl rfl (op_move rfl) ?_
      refine wl_wanted_det rfl rfl rfl rfl rfl rfl rfl (op_move rfl) ?_
      refine wl_wanted [601, 602] rfl rfl rfl rfl rfl rfl rfl rfl (op_fn Try.func15 rfl rfl rfl (append_any (s := F2 (20 + n) D) [103] [120] hg2 hp82 (by decide) (by decide))) ?_
      rintro _ _ ⟨l87, hp87, rfl, rfl⟩
      refine wl_wanted_det rfl rfl rfl rfl rfl rfl rfl (op_val (v' := .bool true) (by rw [hl]; rfl) (op_eql rfl rfl)) ?_
      refine wl_det rfl rfl rfl (op_pick_t rfl rfl) ?_
      refine wl_det rfl rfl rfl (op_assign rfl) ?_
      refine wl_nil ?_
      refine st_tn ?_
      refine w_ret ?_
      refine st_ret (vs := [_]) [] Try.results3 ⟨rfl, trivial⟩ rfl ?_
      refine ⟨_, rfl, ?_⟩
      exact ⟨rfl, rfl⟩

theorem lawFull_int {σ : World} {F : List Res} (n c : Int) (hn : 0 ≤ n ∧ n ≤ 255) (hc : 0 ≤ c ∧ c ≤ 255) : FnT Try.prog σ F 3 [.int .u8 n, .int .u8 c] [] (fun u ρ => u = .bool true ∧ ρ = []) := by
  have := lawFull_any (σ := σ) (F := F) n (UInt8.ofNat c.toNat) hn
  have h : ((UInt8.ofNat c.toNat).toNat : Int) = c := by rw [UInt8.toNat_ofNat']; omega
  rwa [h] at this
end Go.Proofs.Ytjlbeakdgadpmaa
