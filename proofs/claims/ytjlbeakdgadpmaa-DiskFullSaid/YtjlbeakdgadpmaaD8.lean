/- Contracts: the model of a disk: change, start (layer 26). Conditions: none. -/
import Derived.Test.YtjlbeakdgadpmaaD7
namespace Go.Proofs.Ytjlbeakdgadpmaa
open Go Go.SL Go.RowKit Go.DskM
set_option linter.unusedVariables false
set_option linter.unusedSimpArgs false
theorem tA51h : aggB Try.prog 51 4 = true := by kernel_rfl
theorem tF36_1h : fieldB Try.prog 36 1 1 = true := by kernel_rfl
theorem tF51_0h : fieldB Try.prog 51 0 0 = true := by kernel_rfl
theorem tF51_1h : fieldB Try.prog 51 1 1 = true := by kernel_rfl
theorem tF51_2h : fieldB Try.prog 51 2 2 = true := by kernel_rfl
theorem tF51_3h : fieldB Try.prog 51 3 3 = true := by kernel_rfl
theorem tL48_1h : zerosB Try.prog 48 9 1 1 = some [Value.string .empty] := by kernel_rfl
theorem tMixh : Try.prog.follows .mixedOrders = true := by kernel_rfl
theorem tN51h : (Try.prog.info? 51).bind (·.zero) = some (Value.agg #[Value.string .empty, Value.string .empty, Value.int .i64 0, Value.bool false]) := by kernel_rfl
theorem tO3h : oneB Try.prog 3 = true := by kernel_rfl
theorem tO34h : oneB Try.prog 34 = true := by kernel_rfl
theorem tO4h : oneB Try.prog 4 = true := by kernel_rfl
theorem tO9h : oneB Try.prog 9 = true := by kernel_rfl
theorem tP48h : appB Try.prog 48 9 1 16 = true := by kernel_rfl
theorem tS34h : sliceB Try.prog 34 51 4 = true := by kernel_rfl
theorem tZ51h : (Try.prog.info? 51).map (·.size) = some 4 := by kernel_rfl
theorem tZ9h : (Try.prog.info? 9).map (·.size) = some 1 := by kernel_rfl

set_option maxHeartbeats 1000000 in
set_option maxRecDepth 100000 in
theorem change_s {σ : World} {F : List Res} {b : Nat} {s : St} {a : Option Addr} {m c : Nat} (n o : Bs) (hg : DskM.Good s) (hn : n.length ≤ maxLen) :
    FnT Try.prog σ F 40 [.pointer (some ⟨b, 0, none⟩), .int .u8 115, .string (str n), .string (str o)] [(603, cel b (cellS s a m c) 36), (604, slW 51 encM 4 (.slice a m c) s.fs)] (fun u ρ => u = .int .i64 (synO s n).1 ∧ NewS b (synO s n).2 ρ) := by
  refine fn_of 95 Try.func40 rfl Try.ntmps40 rfl ?_
  have hcnt := hg.cnt
  have hlo := idx_le s.fs n
  refine w_seq ?_
  refine w_region ?_
  refine wl_det rfl rfl rfl (op_assign rfl) ?_
  refine wl_nil ?_
  refine st_tn ?_
  refine w_seq ?_
  refine w_region ?_
  refine wl_det rfl rfl rfl (op_move rfl) ?_
  refine wl_op [] rfl rfl rfl rfl (op_buildSlice (enc := encT) (l := [_]) (lab := 17) tL48_1h rfl rfl (fun _ => rfl) rfl) ?_
  rintro _ _ ⟨a17, c17, rfl, rfl⟩
  refine wl_det rfl rfl rfl (op_assign rfl) ?_
  refine wl_nil ?_
  refine st_tn ?_
  refine w_seq ?_
  refine w_seq ?_
  refine w_region ?_
  refine wl_det rfl rfl rfl (op_move rfl) ?_
  refine wl_det rfl rfl rfl (op_val (v' := .bool false) (by rfl) (op_eql rfl rfl)) ?_
  refine wl_nil ?_
  refine st_tn ?_
  refine w_cond_f (rfl) ?_
  refine w_skip ?_
  refine st_tn ?_
  refine w_seq ?_
  refine w_seq ?_
  refine w_region ?_
  refine wl_det rfl rfl rfl (op_move rfl) ?_
  refine wl_det rfl rfl rfl (op_move rfl) ?_
  refine wl_det rfl rfl rfl (op_fn Try.func48 rfl rfl rfl (check_any (l := [n]) (celS (l := 603) rfl) (Sl.lab 17 rfl (by simp [maxLen])) (by simpa using hn))) ?_
  refine wl_det rfl rfl rfl (op_assign rfl) ?_
  refine wl_nil ?_
  refine st_tn ?_
  refine w_seq ?_
  refine w_region ?_
  refine wl_det rfl rfl rfl (op_move rfl) ?_
  refine wl_det rfl rfl rfl (op_neq rfl rfl) ?_
  refine wl_nil ?_
  refine st_tn ?_
  refine w_cond_d rfl (fun hc28 => ?_) (fun hc28 => ?_)
  · -- c28.t
    refine w_seq ?_
    refine w_region ?_
    refine wl_det rfl rfl rfl (op_move rfl) ?_
    refine wl_det rfl rfl rfl (op_assign rfl) ?_
    refine wl_nil ?_
    refine st_tn ?_
    refine w_ret ?_
    refine st_tr ?_
    refine st_ret (vs := [_]) [603, 604] Try.results40 ⟨rfl, trivial⟩ rfl ?_
    refine ⟨[(603, _), (604, _)], rfl, ?_⟩
    rw [syn_ready hc28]; exact ⟨rfl, _, _, _, rfl⟩
  · -- c28.f
    refine w_skip ?_
    refine st_tn ?_
    refine w_seq ?_
    refine w_region ?_
    refine wl_det rfl rfl rfl (op_move rfl) ?_
    refine wl_det rfl rfl rfl (op_move rfl) ?_
    refine wl_det rfl rfl rfl (op_fn Try.func49 rfl rfl rfl (index_any n hg (celS (l := 603) rfl) (Sl.lab 604 rfl (by unfold maxLen; omega)))) ?_
    refine wl_det rfl rfl rfl (op_move rfl) ?_
    refine wl_det rfl rfl rfl (op_extract rfl rfl) ?_
    refine wl_det rfl rfl rfl (op_extract rfl rfl) ?_
    refine wl_det rfl rfl rfl (op_assign rfl) ?_
    refine wl_det rfl rfl rfl (op_assign rfl) ?_
    refine wl_nil ?_
    refine st_tn ?_
    refine w_seq ?_
    refine w_seq ?_
    refine w_region ?_
    refine wl_det rfl rfl rfl (op_move rfl) ?_
    refine wl_det rfl rfl rfl (op_not rfl) ?_
    refine wl_nil ?_
    refine st_tn ?_
    refine w_cond rfl (fun hc37 => ?_) (fun hc37 => ?_)
    · -- c37.t
      have hff : find s.fs n = none := by simpa using hc37
      refine w_seq ?_
      refine w_region ?_
      refine wl_det rfl rfl rfl (op_assign rfl) ?_
      refine wl_nil ?_
      refine st_tn ?_
      refine w_ret ?_
      refine st_tr ?_
      refine st_ret (vs := [_]) [603, 604] Try.results40 ⟨rfl, trivial⟩ rfl ?_
      refine ⟨[(603, _), (604, _)], rfl, ?_⟩
      rw [syn_none hc28 hff]; exact ⟨rfl, _, _, _, rfl⟩
    · -- c37.f
      obtain ⟨f, hff⟩ := Option.isSome_iff_exists.1 (by simpa using hc37 : (find s.fs n).isSome = true)
      have hx := at_idx hg.inc hff
      have hxl := ltE hx
      refine w_skip ?_
      refine st_tn ?_
      refine w_seq ?_
      refine w_seq ?_
      refine w_region ?_
      refine wl_det rfl rfl rfl (op_move rfl) ?_
      refine wl_op [603] rfl rfl rfl rfl (op_fn Try.func51 rfl rfl rfl (step_any s hg)) ?_
      rintro _ _ ⟨rfl, rfl⟩
      refine wl_nil ?_
      refine st_tn ?_
      refine w_cond rfl (fun hc39 => ?_) (fun hc39 => ?_)
      · -- c39.t
        refine w_seq ?_
        refine w_region ?_
        refine wl_det rfl rfl rfl (op_assign rfl) ?_
        refine wl_nil ?_
        refine st_tn ?_
        refine w_ret ?_
        refine st_tr ?_
        refine st_ret (vs := [_]) [603, 604] Try.results40 ⟨rfl, trivial⟩ rfl ?_
        refine ⟨[(603, _), (604, _)], rfl, ?_⟩
        rw [syn_fail hc28 hff (by simpa using hc39)]; refine ⟨rfl, a, m, c, ?_⟩; rw [(oper_fs s).1]
      · -- c39.f
        refine w_skip ?_
        refine st_tn ?_
        refine w_seq ?_
        refine w_region ?_
        refine wl_det rfl rfl rfl (op_move rfl) ?_
        refine wl_det rfl rfl rfl (op_nilCheck rfl) ?_
        refine wl_det rfl rfl rfl (op_fieldAddr (off := 1) rfl tF36_1h) ?_
        refine wl_det rfl rfl rfl (op_load1 rfl tO34h (Ent.lab (l := 603) rfl (says_cel 1))) ?_
        refine wl_det rfl rfl rfl (op_move rfl) ?_
        refine wl_det rfl rfl rfl (op_idx rfl rfl tS34h (Sl.ent (Sl.lab 604 rfl (by unfold maxLen; first | omega | (dsimp only; omega) | (rw [List.length_set]; omega) | (simp; omega)))) (by first | omega | (dsimp only; omega) | (rw [List.length_set]; omega) | (simp; omega))) ?_
        refine wl_det rfl rfl rfl (op_ldxA rfl tA51h (Sl.lab 604 rfl (by unfold maxLen; first | omega | (dsimp only; omega) | (rw [List.length_set]; omega) | (simp; omega))) (by assumption) (by rfl) (by rfl)) ?_
        refine wl_op [] rfl rfl rfl rfl (op_alloc (l := 13) tN51h) ?_
        rintro _ _ ⟨b13, rfl, rfl⟩
        refine wl_op0 [13] rfl rfl rfl (op_store rfl rfl tZ51h (by rfl) (by rfl) (by exact Nat.le_of_ble_eq_true rfl)) ?_
        rintro _ _ ⟨rfl, rfl⟩
        refine wl_nil ?_
        refine st_tn ?_
        refine w_seq ?_
        refine w_block ?_
        refine w_seq ?_
        refine w_region ?_
        refine wl_det rfl rfl rfl (op_move rfl) ?_
        refine wl_det rfl rfl rfl (op_val (v' := .bool true) (by rfl) (op_eql rfl rfl)) ?_
        refine wl_det rfl rfl rfl (op_assign rfl) ?_
        refine wl_nil ?_
        refine st_tn ?_
        refine w_cond_t (rfl) ?_
        refine w_drawW (fun β => [⟨50, [], [], [], noW (_), false, [], []⟩, ⟨51, [0], [], [], noW (_), false, [], []⟩, ⟨52, [1], [], [], noW (_), false, [], []⟩, ⟨53, [2], [], [], noW (_), false, [], []⟩, ⟨54, [], [], [], noW (_), false, [], []⟩, ⟨55, [], [], [], noW (_), false, [], []⟩, ⟨56, [5], [], [], noW (_), false, [], []⟩, ⟨57, [6], [], [], noW (_), false, [], []⟩, ⟨58, [7], [], [], noW (_), false, [], []⟩, ⟨59, [], [], [], noW (_), false, [], []⟩, ⟨60, [], [], [], noW (_), false, [], []⟩, ⟨61, [10], [], [], noW (_), false, [], []⟩, ⟨62, [11], [], [], noW (_), false, [], []⟩, ⟨63, [3, 4], [], [], noW (_), false, [15], []⟩, ⟨64, [13], [], [], noW (_), false, [], []⟩, ⟨110, [14, 12], [], [(604, _)], noW (_), false, [], []⟩]) [604] [0, 11, 13] [⟨50, [], [], false, [], []⟩, ⟨51, [0], [], false, [], []⟩, ⟨52, [1], [], false, [], []⟩, ⟨53, [2], [], false, [], []⟩, ⟨54, [], [], false, [], []⟩, ⟨55, [], [], false, [], []⟩, ⟨56, [5], [], false, [], []⟩, ⟨57, [6], [], false, [], []⟩, ⟨58, [7], [], false, [], []⟩, ⟨59, [], [], false, [], []⟩, ⟨60, [], [], false, [], []⟩, ⟨61, [10], [], false, [], []⟩, ⟨62, [11], [], false, [], []⟩, ⟨63, [3, 4], [], false, [15], []⟩, ⟨64, [13], [], false, [], []⟩, ⟨110, [14, 12], [], false, [], []⟩] [[], [], [], [], [], [], [], [], [], [], [], [], [], [], [], []] [[], [], [], [], [], [], [], [], [], [], [], [], [], [], [], [(604, _)]] tMixh (fun _ => by rfl) (fun _ => by rfl) (by kernel_rfl) (by kernel_rfl) (by rfl) (by rfl)
            (fun β => ⟨.p rfl (by intro X; exact op_move rfl),
            ⟨.p rfl (by intro X; rintro _ _ ⟨rfl, rfl⟩; exact op_nilCheck rfl),
            ⟨.p rfl (by intro X; rintro _ _ ⟨rfl, rfl⟩; exact op_fieldAddr (off := 1) rfl tF36_1h),
            ⟨.p rfl (by intro X; rintro _ _ ⟨rfl, rfl⟩; exact op_load1 rfl tO34h (Ent.lab (l := 603) rfl (says_cel 1))),
            ⟨.p rfl (by intro X; exact op_move rfl),
            ⟨.p rfl (by intro X; exact op_move rfl),
            ⟨.p rfl (by intro X; rintro _ _ ⟨rfl, rfl⟩; exact op_nilCheck rfl),
            ⟨.p rfl (by intro X; rintro _ _ ⟨rfl, rfl⟩; exact op_fieldAddr (off := 1) rfl tF36_1h),
            ⟨.p rfl (by intro X; rintro _ _ ⟨rfl, rfl⟩; exact op_load1 rfl tO34h (Ent.lab (l := 603) rfl (says_cel 1))),
            ⟨.p rfl (by intro X; exact op_move rfl),
            ⟨.p rfl (by intro X; exact op_fieldAddr (off := 1) rfl tF51_1h),
            ⟨.p rfl (by intro X; rintro _ _ ⟨rfl, rfl⟩; exact op_load1 rfl tO9h (Ent.lab (l := 13) rfl (says_cel 1))),
            ⟨.p rfl (by intro X; rintro _ _ ⟨rfl, rfl⟩; exact op_lenBs rfl Try.underlying9),
            ⟨.p rfl (by intro X; rintro _ _ ⟨rfl, rfl⟩ _ _ ⟨rfl, rfl⟩; exact op_idx rfl rfl tS34h (Sl.ent (Sl.lab 604 rfl (by unfold maxLen; first | omega | (dsimp only; omega) | (rw [List.length_set]; omega) | (simp; omega)))) (by first | omega | (dsimp only; omega) | (rw [List.length_set]; omega) | (simp; omega))),
            ⟨.p rfl (by intro X; rintro _ _ ⟨rfl, rfl⟩; exact op_fieldAddr (off := 2) rfl tF51_2h),
            ⟨.p rfl (by intro X; rintro _ _ ⟨rfl, rfl⟩ _ _ ⟨rfl, rfl⟩; exact op_storeX (enc := encM) (lab := 604) (j := 2) (b' := (n, ⟨f.data, f.data.length, f.dur⟩)) rfl rfl tO3h rfl rfl (by rfl) (by assumption) (Nat.le_of_ble_eq_true rfl) (by rfl)) (hu := by exact .inr fun _ _ h => h.1),
            trivial⟩⟩⟩⟩⟩⟩⟩⟩⟩⟩⟩⟩⟩⟩⟩⟩)
            (fun β β' => ⟨fun _ => by rfl, ⟨fun _ => by rfl, ⟨fun _ => by rfl, ⟨fun _ => by rfl, ⟨fun _ => by rfl, ⟨fun _ => by rfl, ⟨fun _ => by rfl, ⟨fun _ => by rfl, ⟨fun _ => by rfl, ⟨fun _ => by rfl, ⟨fun _ => by rfl, ⟨fun _ => by rfl, ⟨fun _ => by rfl, ⟨fun _ => by rfl, ⟨fun _ => by rfl, ⟨fun _ => by rfl, trivial⟩⟩⟩⟩⟩⟩⟩⟩⟩⟩⟩⟩⟩⟩⟩⟩) ?_
        intro β
        rintro _ _ ⟨rfl, rfl⟩ _ _ ⟨rfl, rfl⟩ _ _ ⟨rfl, rfl⟩ _ _ ⟨rfl, rfl⟩ _ _ ⟨rfl, rfl⟩ _ _ ⟨rfl, rfl⟩ _ _ ⟨rfl, rfl⟩ _ _ ⟨rfl, rfl⟩ _ _ ⟨rfl, rfl⟩ _ _ ⟨rfl, rfl⟩ _ _ ⟨rfl, rfl⟩ _ _ ⟨rfl, rfl⟩ _ _ ⟨rfl, rfl⟩ _ _ ⟨rfl, rfl⟩ _ _ ⟨rfl, rfl⟩ _ _ ⟨rfl, rfl⟩
        refine wl_norm (e' := [(58, _), (59, _)]) (.cons rfl (.cons rfl (.nil _))) (by dsimp only [cond_false, cond_true, List.nil_append, List.cons_append]) ?_
        refine wl_det rfl rfl rfl (op_idx rfl rfl tS34h (Sl.ent (Sl.lab 604 rfl (by unfold maxLen; first | omega | (dsimp only; omega) | (rw [List.length_set]; omega) | (simp; omega)))) (by first | omega | (dsimp only; omega) | (rw [List.length_set]; omega) | (simp; omega))) ?_
        refine wl_det rfl rfl rfl (op_fieldAddr (off := 3) rfl tF51_3h) ?_
        refine wl_op0 [604] rfl rfl rfl (op_storeX (enc := encM) (lab := 604) (j := 3) (b := (n, ⟨f.data, f.data.length, f.dur⟩)) (b' := (n, ⟨f.data, f.data.length, true⟩)) rfl rfl tO4h rfl rfl (by rfl) (by simp [hxl]) (Nat.le_of_ble_eq_true rfl) (by rfl)) ?_
        rintro _ _ ⟨rfl, rfl⟩
        refine wl_nil ?_
        refine st_bn ?_
        refine st_tn ?_
        refine w_seq ?_
        refine w_region ?_
        refine wl_det rfl rfl rfl (op_assign rfl) ?_
        refine wl_nil ?_
        refine st_tn ?_
        refine w_ret ?_
        refine st_ret (vs := [_]) [603, 604] Try.results40 ⟨rfl, trivial⟩ rfl ?_
        refine ⟨[(603, _), (604, _)], rfl, ?_⟩
        rw [syn_done hc28 hff (by simpa using hc39)]; refine ⟨rfl, a, m, c, ?_⟩
        rw [← set_in hg.inc hff, List.set_set]; rfl

set_option maxHeartbeats 1000000 in
set_option maxRecDepth 100000 in
theorem change_r {σ : World} {F : List Res} {b : Nat} {s : St} {a : Option Addr} {m c : Nat} (n o : Bs) (hg : DskM.Good s) (hn : n.length ≤ maxLen) :
    FnT Try.prog σ F 40 [.pointer (some ⟨b, 0, none⟩), .int .u8 114, .string (str n), .string (str o)] [(603, cel b (cellS s a m c) 36), (604, slW 51 encM 4 (.slice a m c) s.fs)] (fun u ρ => u = .int .i64 (remO s n).1 ∧ NewS b (remO s n).2 ρ) := by
  refine fn_of 95 Try.func40 rfl Try.ntmps40 rfl ?_
  have hcnt := hg.cnt
  have hlo := idx_le s.fs n
  refine w_seq ?_
  refine w_region ?_
  refine wl_det rfl rfl rfl (op_assign rfl) ?_
  refine wl_nil ?_
  refine st_tn ?_
  refine w_seq ?_
  refine w_region ?_
  refine wl_det rfl rfl rfl (op_move rfl) ?_
  refine wl_op [] rfl rfl rfl rfl (op_buildSlice (enc := encT) (l := [_]) (lab := 17) tL48_1h rfl rfl (fun _ => rfl) rfl) ?_
  rintro _ _ ⟨a17, c17, rfl, rfl⟩
  refine wl_det rfl rfl rfl (op_assign rfl) ?_
  refine wl_nil ?_
  refine st_tn ?_
  refine w_seq ?_
  refine w_seq ?_
  refine w_region ?_
  refine wl_det rfl rfl rfl (op_move rfl) ?_
  refine wl_det rfl rfl rfl (op_val (v' := .bool false) (by rfl) (op_eql rfl rfl)) ?_
  refine wl_nil ?_
  refine st_tn ?_
  refine w_cond_f (rfl) ?_
  refine w_skip ?_
  refine st_tn ?_
  refine w_seq ?_
  refine w_seq ?_
  refine w_region ?_
  refine wl_det rfl rfl rfl (op_move rfl) ?_
  refine wl_det rfl rfl rfl (op_move rfl) ?_
  refine wl_det rfl rfl rfl (op_fn Try.func48 rfl rfl rfl (check_any (l := [n]) (celS (l := 603) rfl) (Sl.lab 17 rfl (by simp [maxLen])) (by simpa using hn))) ?_
  refine wl_det rfl rfl rfl (op_assign rfl) ?_
  refine wl_nil ?_
  refine st_tn ?_
  refine w_seq ?_
  refine w_region ?_
  refine wl_det rfl rfl rfl (op_move rfl) ?_
  refine wl_det rfl rfl rfl (op_neq rfl rfl) ?_
  refine wl_nil ?_
  refine st_tn ?_
  refine w_cond_d rfl (fun hc28 => ?_) (fun hc28 => ?_)
  · -- c28.t
    refine w_seq ?_
    refine w_region ?_
    refine wl_det rfl rfl rfl (op_move rfl) ?_
    refine wl_det rfl rfl rfl (op_assign rfl) ?_
    refine wl_nil ?_
    refine st_tn ?_
    refine w_ret ?_
    refine st_tr ?_
    refine st_ret (vs := [_]) [603, 604] Try.results40 ⟨rfl, trivial⟩ rfl ?_
    refine ⟨[(603, _), (604, _)], rfl, ?_⟩
    rw [rem_ready hc28]; exact ⟨rfl, _, _, _, rfl⟩
  · -- c28.f
    refine w_skip ?_
    refine st_tn ?_
    refine w_seq ?_
    refine w_region ?_
    refine wl_det rfl rfl rfl (op_move rfl) ?_
    refine wl_det rfl rfl rfl (op_move rfl) ?_
    refine wl_det rfl rfl rfl (op_fn Try.func49 rfl rfl rfl (index_any n hg (celS (l := 603) rfl) (Sl.lab 604 rfl (by unfold maxLen; omega)))) ?_
    refine wl_det rfl rfl rfl (op_move rfl) ?_
    refine wl_det rfl rfl rfl (op_extract rfl rfl) ?_
    refine wl_det rfl rfl rfl (op_extract rfl rfl) ?_
    refine wl_det rfl rfl rfl (op_assign rfl) ?_
    refine wl_det rfl rfl rfl (op_assign rfl) ?_
    refine wl_nil ?_
    refine st_tn ?_
    refine w_seq ?_
    refine w_seq ?_
    refine w_region ?_
    refine wl_det rfl rfl rfl (op_move rfl) ?_
    refine wl_det rfl rfl rfl (op_not rfl) ?_
    refine wl_nil ?_
    refine st_tn ?_
    refine w_cond rfl (fun hc37 => ?_) (fun hc37 => ?_)
    · -- c37.t
      have hff : find s.fs n = none := by simpa using hc37
      refine w_seq ?_
      refine w_region ?_
      refine wl_det rfl rfl rfl (op_assign rfl) ?_
      refine wl_nil ?_
      refine st_tn ?_
      refine w_ret ?_
      refine st_tr ?_
      refine st_ret (vs := [_]) [603, 604] Try.results40 ⟨rfl, trivial⟩ rfl ?_
      refine ⟨[(603, _), (604, _)], rfl, ?_⟩
      rw [rem_find (by unfold findO; rw [if_neg hc28, hff]; simp)]; unfold findO; rw [if_neg hc28, hff]; exact ⟨rfl, _, _, _, rfl⟩
    · -- c37.f
      obtain ⟨f, hff⟩ := Option.isSome_iff_exists.1 (by simpa using hc37 : (find s.fs n).isSome = true)
      have hx := at_idx hg.inc hff
      have hxl := ltE hx
      refine w_skip ?_
      refine st_tn ?_
      refine w_seq ?_
      refine w_seq ?_
      refine w_region ?_
      refine wl_det rfl rfl rfl (op_move rfl) ?_
      refine wl_op [603] rfl rfl rfl rfl (op_fn Try.func51 rfl rfl rfl (step_any s hg)) ?_
      rintro _ _ ⟨rfl, rfl⟩
      refine wl_nil ?_
      refine st_tn ?_
      refine w_cond rfl (fun hc39 => ?_) (fun hc39 => ?_)
      · -- c39.t
        refine w_seq ?_
        refine w_region ?_
        refine wl_det rfl rfl rfl (op_assign rfl) ?_
        refine wl_nil ?_
        refine st_tn ?_
        refine w_ret ?_
        refine st_tr ?_
        refine st_ret (vs := [_]) [603, 604] Try.results40 ⟨rfl, trivial⟩ rfl ?_
        refine ⟨[(603, _), (604, _)], rfl, ?_⟩
        rw [rem_fail hc28 hff (by simpa using hc39)]; refine ⟨rfl, a, m, c, ?_⟩; rw [(oper_fs s).1]
      · -- c39.f
        refine w_skip ?_
        refine st_tn ?_
        refine w_seq ?_
        refine w_region ?_
        refine wl_det rfl rfl rfl (op_move rfl) ?_
        refine wl_det rfl rfl rfl (op_nilCheck rfl) ?_
        refine wl_det rfl rfl rfl (op_fieldAddr (off := 1) rfl tF36_1h) ?_
        refine wl_det rfl rfl rfl (op_load1 rfl tO34h (Ent.lab (l := 603) rfl (says_cel 1))) ?_
        refine wl_det rfl rfl rfl (op_move rfl) ?_
        refine wl_det rfl rfl rfl (op_idx rfl rfl tS34h (Sl.ent (Sl.lab 604 rfl (by unfold maxLen; first | omega | (dsimp only; omega) | (rw [List.length_set]; omega) | (simp; omega)))) (by first | omega | (dsimp only; omega) | (rw [List.length_set]; omega) | (simp; omega))) ?_
        refine wl_det rfl rfl rfl (op_ldxA rfl tA51h (Sl.lab 604 rfl (by unfold maxLen; first | omega | (dsimp only; omega) | (rw [List.length_set]; omega) | (simp; omega))) (by assumption) (by rfl) (by rfl)) ?_
        refine wl_op [] rfl rfl rfl rfl (op_alloc (l := 13) tN51h) ?_
        rintro _ _ ⟨b13, rfl, rfl⟩
        refine wl_op0 [13] rfl rfl rfl (op_store rfl rfl tZ51h (by rfl) (by rfl) (by exact Nat.le_of_ble_eq_true rfl)) ?_
        rintro _ _ ⟨rfl, rfl⟩
        refine wl_nil ?_
        refine st_tn ?_
        refine w_seq ?_
        refine w_block ?_
        refine w_seq ?_
        refine w_region ?_
        refine wl_det rfl rfl rfl (op_move rfl) ?_
        refine wl_det rfl rfl rfl (op_val (v' := .bool false) (by rfl) (op_eql rfl rfl)) ?_
        refine wl_det rfl rfl rfl (op_assign rfl) ?_
        refine wl_nil ?_
        refine st_tn ?_
        refine w_cond_f (rfl) ?_
        refine w_seq ?_
        refine w_region ?_
        refine wl_det rfl rfl rfl (op_move rfl) ?_
        refine wl_det rfl rfl rfl (op_val (v' := .bool true) (by rfl) (op_eql rfl rfl)) ?_
        refine wl_det rfl rfl rfl (op_assign rfl) ?_
        refine wl_nil ?_
        refine st_tn ?_
        refine w_cond_t (rfl) ?_
        refine w_region ?_
        refine wl_det rfl rfl rfl (op_move rfl) ?_
        refine wl_det rfl rfl rfl (op_move rfl) ?_
        refine wl_op [603, 604] rfl rfl rfl rfl (op_fn Try.func52 rfl rfl rfl (remove_any' (s := { (oper s).2 with fs := s.fs }) (idxS s.fs n) hxl hcnt)) ?_
        rintro _ _ ⟨rfl, a72, m72, c72, rfl⟩
        refine wl_nil ?_
        refine st_bn ?_
        refine st_tn ?_
        refine w_seq ?_
        refine w_region ?_
        refine wl_det rfl rfl rfl (op_assign rfl) ?_
        refine wl_nil ?_
        refine st_tn ?_
        refine w_ret ?_
        refine st_ret (vs := [_]) [603, 604] Try.results40 ⟨rfl, trivial⟩ rfl ?_
        refine ⟨[(603, _), (604, _)], rfl, ?_⟩
        rw [rem_done hc28 hff (by simpa using hc39)]; refine ⟨rfl, a72, m72, c72, ?_⟩
        rw [del_idx hg.inc hff]

theorem set_del_self {fs : Files} {n : Bs} {f : Fl} (hi : DskM.Inc fs) (h : find fs n = some f) : setS (delS fs n) n f = fs :=
  Inc.ext hi.del.set hi fun k => by
    rw [find_set hi.del, find_del]
    by_cases hk : k = n
    · subst hk; rw [if_pos rfl, h]
    · rw [if_neg hk, if_neg hk]
theorem set_del_same {fs : Files} {n : Bs} {f : Fl} (hi : DskM.Inc fs) : setS (delS fs n) n f = setS fs n f :=
  Inc.ext hi.del.set hi.set fun k => by
    rw [find_set hi.del, find_del, find_set hi]
    by_cases hk : k = n
    · subst hk; rw [if_pos rfl, if_pos rfl]
    · rw [if_neg hk, if_neg hk, if_neg hk]
theorem Good.del {s : St} (h : DskM.Good s) (n : Bs) : DskM.Good { s with fs := delS s.fs n } := by
  refine h.fs h.inc.del (fun p hp => h.syn p (mem_delS hp).1) (fun p hp => h.nam p (mem_delS hp).1) ?_ ?_
  · have := len_del (k := n) (fs := s.fs); have := h.cnt; omega
  · have hu := used_del (k := n) h.inc
    have := h.use
    omega
theorem Good.withfs {s : St} (h : DskM.Good s) : DskM.Good { (oper s).2 with fs := s.fs } := by
  have := h.oper
  have e : { (oper s).2 with fs := s.fs } = (oper s).2 := by
    have := (oper_fs s).1
    cases ho : (oper s).2
    rw [ho] at this; simp only at this; rw [← this]
  rw [e]; exact this
theorem find_del_self {fs : Files} {n : Bs} : find (delS fs n) n = none := by rw [find_del, if_pos rfl]
set_option maxHeartbeats 1000000 in
set_option maxRecDepth 100000 in
theorem change_n {σ : World} {F : List Res} {b : Nat} {s : St} {a : Option Addr} {m c : Nat} (n o : Bs) (hg : DskM.Good s) (hn : n.length ≤ maxLen) (hol : o.length ≤ maxLen) :
    FnT Try.prog σ F 40 [.pointer (some ⟨b, 0, none⟩), .int .u8 110, .string (str n), .string (str o)] [(603, cel b (cellS s a m c) 36), (604, slW 51 encM 4 (.slice a m c) s.fs)] (fun u ρ => u = .int .i64 (renO s n o).1 ∧ NewS b (renO s n o).2 ρ) := by
  refine fn_of 95 Try.func40 rfl Try.ntmps40 rfl ?_
  have hcnt := hg.cnt
  have hlo := idx_le s.fs n
  refine w_seq ?_
  refine w_region ?_
  refine wl_det rfl rfl rfl (op_assign rfl) ?_
  refine wl_nil ?_
  refine st_tn ?_
  refine w_seq ?_
  refine w_region ?_
  refine wl_det rfl rfl rfl (op_move rfl) ?_
  refine wl_op [] rfl rfl rfl rfl (op_buildSlice (enc := encT) (l := [_]) (lab := 17) tL48_1h rfl rfl (fun _ => rfl) rfl) ?_
  rintro _ _ ⟨a17, c17, rfl, rfl⟩
  refine wl_det rfl rfl rfl (op_assign rfl) ?_
  refine wl_nil ?_
  refine st_tn ?_
  refine w_seq ?_
  refine w_seq ?_
  refine w_region ?_
  refine wl_det rfl rfl rfl (op_move rfl) ?_
  refine wl_det rfl rfl rfl (op_val (v' := .bool true) (by rfl) (op_eql rfl rfl)) ?_
  refine wl_nil ?_
  refine st_tn ?_
  refine w_cond_t (rfl) ?_
  refine w_region ?_
  refine wl_det rfl rfl rfl (op_move rfl) ?_
  refine wl_det rfl rfl rfl (op_move rfl) ?_
  refine wl_op [] rfl rfl rfl rfl (op_buildSlice (enc := encT) (l := [_]) (lab := 22) tL48_1h rfl rfl (fun _ => rfl) rfl) ?_
  rintro _ _ ⟨a22, c22, rfl, rfl⟩
  refine wl_op [17] rfl rfl rfl rfl (op_append (lab := 17) (lab' := 23) rfl rfl tP48h enc1T (Sl.lab 22 rfl (by simp [maxLen])) (by first | omega | (simp; done) | (simp; omega) | (simp [*]; omega)) (by first | omega | (simp; done) | (simp; omega) | (simp [*]; omega))) ?_
  rintro _ _ ⟨a23, c23, rfl, rfl⟩
  refine wl_det rfl rfl rfl (op_assign rfl) ?_
  refine wl_nil ?_
  refine st_tn ?_
  refine w_seq ?_
  refine w_seq ?_
  refine w_region ?_
  refine wl_det rfl rfl rfl (op_move rfl) ?_
  refine wl_det rfl rfl rfl (op_move rfl) ?_
  refine wl_det rfl rfl rfl (op_fn Try.func48 rfl rfl rfl (check_any (l := [n, o]) (celS (l := 603) rfl) (Sl.lab 23 rfl (by simp [maxLen])) (by intro x hx; simp only [List.mem_cons, List.not_mem_nil, or_false] at hx; rcases hx with rfl | rfl <;> assumption))) ?_
  refine wl_det rfl rfl rfl (op_assign rfl) ?_
  refine wl_nil ?_
  refine st_tn ?_
  refine w_seq ?_
  refine w_region ?_
  refine wl_det rfl rfl rfl (op_move rfl) ?_
  refine wl_det rfl rfl rfl (op_neq rfl rfl) ?_
  refine wl_nil ?_
  refine st_tn ?_
  refine w_cond_d rfl (fun hc28 => ?_) (fun hc28 => ?_)
  · -- c28.t
    refine w_seq ?_
    refine w_region ?_
    refine wl_det rfl rfl rfl (op_move rfl) ?_
    refine wl_det rfl rfl rfl (op_assign rfl) ?_
    refine wl_nil ?_
    refine st_tn ?_
    refine w_ret ?_
    refine st_tr ?_
    refine st_ret (vs := [_]) [603, 604] Try.results40 ⟨rfl, trivial⟩ rfl ?_
    refine ⟨[(603, _), (604, _)], rfl, ?_⟩
    rw [ren_ready hc28]; exact ⟨rfl, _, _, _, rfl⟩
  · -- c28.f
    refine w_skip ?_
    refine st_tn ?_
    refine w_seq ?_
    refine w_region ?_
    refine wl_det rfl rfl rfl (op_move rfl) ?_
    refine wl_det rfl rfl rfl (op_move rfl) ?_
    refine wl_det rfl rfl rfl (op_fn Try.func49 rfl rfl rfl (index_any n hg (celS (l := 603) rfl) (Sl.lab 604 rfl (by unfold maxLen; omega)))) ?_
    refine wl_det rfl rfl rfl (op_move rfl) ?_
    refine wl_det rfl rfl rfl (op_extract rfl rfl) ?_
    refine wl_det rfl rfl rfl (op_extract rfl rfl) ?_
    refine wl_det rfl rfl rfl (op_assign rfl) ?_
    refine wl_det rfl rfl rfl (op_assign rfl) ?_
    refine wl_nil ?_
    refine st_tn ?_
    refine w_seq ?_
    refine w_seq ?_
    refine w_region ?_
    refine wl_det rfl rfl rfl (op_move rfl) ?_
    refine wl_det rfl rfl rfl (op_not rfl) ?_
    refine wl_nil ?_
    refine st_tn ?_
    refine w_cond rfl (fun hc37 => ?_) (fun hc37 => ?_)
    · -- c37.t
      have hff : find s.fs n = none := by simpa using hc37
      refine w_seq ?_
      refine w_region ?_
      refine wl_det rfl rfl rfl (op_assign rfl) ?_
      refine wl_nil ?_
      refine st_tn ?_
      refine w_ret ?_
      refine st_tr ?_
      refine st_ret (vs := [_]) [603, 604] Try.results40 ⟨rfl, trivial⟩ rfl ?_
      refine ⟨[(603, _), (604, _)], rfl, ?_⟩
      rw [ren_none hc28 hff]; exact ⟨rfl, _, _, _, rfl⟩
    · -- c37.f
      obtain ⟨f, hff⟩ := Option.isSome_iff_exists.1 (by simpa using hc37 : (find s.fs n).isSome = true)
      have hx := at_idx hg.inc hff
      have hxl := ltE hx
      have hgd := Good.del (Good.withfs hg) n
      have hdl := hgd.cnt
      dsimp only at hdl
      have hle2 := idx_le (delS s.fs n) o
      refine w_skip ?_
      refine st_tn ?_
      refine w_seq ?_
      refine w_seq ?_
      refine w_region ?_
      refine wl_det rfl rfl rfl (op_move rfl) ?_
      refine wl_op [603] rfl rfl rfl rfl (op_fn Try.func51 rfl rfl rfl (step_any s hg)) ?_
      rintro _ _ ⟨rfl, rfl⟩
      refine wl_nil ?_
      refine st_tn ?_
      refine w_cond rfl (fun hc39 => ?_) (fun hc39 => ?_)
      · -- c39.t
        refine w_seq ?_
        refine w_region ?_
        refine wl_det rfl rfl rfl (op_assign rfl) ?_
        refine wl_nil ?_
        refine st_tn ?_
        refine w_ret ?_
        refine st_tr ?_
        refine st_ret (vs := [_]) [603, 604] Try.results40 ⟨rfl, trivial⟩ rfl ?_
        refine ⟨[(603, _), (604, _)], rfl, ?_⟩
        rw [ren_fail hc28 hff (by simpa using hc39)]; refine ⟨rfl, a, m, c, ?_⟩; rw [(oper_fs s).1]
      · -- c39.f
        refine w_skip ?_
        refine st_tn ?_
        refine w_seq ?_
        refine w_region ?_
        refine wl_det rfl rfl rfl (op_move rfl) ?_
        refine wl_det rfl rfl rfl (op_nilCheck rfl) ?_
        refine wl_det rfl rfl rfl (op_fieldAddr (off := 1) rfl tF36_1h) ?_
        refine wl_det rfl rfl rfl (op_load1 rfl tO34h (Ent.lab (l := 603) rfl (says_cel 1))) ?_
        refine wl_det rfl rfl rfl (op_move rfl) ?_
        refine wl_det rfl rfl rfl (op_idx rfl rfl tS34h (Sl.ent (Sl.lab 604 rfl (by unfold maxLen; first | omega | (dsimp only; omega) | (rw [List.length_set]; omega) | (simp; omega)))) (by first | omega | (dsimp only; omega) | (rw [List.length_set]; omega) | (simp; omega))) ?_
        refine wl_det rfl rfl rfl (op_ldxA rfl tA51h (Sl.lab 604 rfl (by unfold maxLen; first | omega | (dsimp only; omega) | (rw [List.length_set]; omega) | (simp; omega))) (by assumption) (by rfl) (by rfl)) ?_
        refine wl_op [] rfl rfl rfl rfl (op_alloc (l := 13) tN51h) ?_
        rintro _ _ ⟨b13, rfl, rfl⟩
        refine wl_op0 [13] rfl rfl rfl (op_store rfl rfl tZ51h (by rfl) (by rfl) (by exact Nat.le_of_ble_eq_true rfl)) ?_
        rintro _ _ ⟨rfl, rfl⟩
        refine wl_nil ?_
        refine st_tn ?_
        refine w_seq ?_
        refine w_block ?_
        refine w_seq ?_
        refine w_region ?_
        refine wl_det rfl rfl rfl (op_move rfl) ?_
        refine wl_det rfl rfl rfl (op_val (v' := .bool false) (by rfl) (op_eql rfl rfl)) ?_
        refine wl_det rfl rfl rfl (op_assign rfl) ?_
        refine wl_nil ?_
        refine st_tn ?_
        refine w_cond_f (rfl) ?_
        refine w_seq ?_
        refine w_region ?_
        refine wl_det rfl rfl rfl (op_move rfl) ?_
        refine wl_det rfl rfl rfl (op_val (v' := .bool false) (by rfl) (op_eql rfl rfl)) ?_
        refine wl_det rfl rfl rfl (op_assign rfl) ?_
        refine wl_nil ?_
        refine st_tn ?_
        refine w_cond_f (rfl) ?_
        refine w_seq ?_
        refine w_region ?_
        refine wl_det rfl rfl rfl (op_move rfl) ?_
        refine wl_det rfl rfl rfl (op_move rfl) ?_
        refine wl_det rfl rfl rfl (op_neBs rfl rfl) ?_
        refine wl_det rfl rfl rfl (op_assign rfl) ?_
        refine wl_nil ?_
        refine st_tn ?_
        refine w_cond_d rfl (fun hc73 => ?_) (fun hc73 => ?_)
        · -- c73.t
          refine w_seq ?_
          refine w_region ?_
          refine wl_det rfl rfl rfl (op_move rfl) ?_
          refine wl_det rfl rfl rfl (op_move rfl) ?_
          refine wl_op [603, 604] rfl rfl rfl rfl (op_fn Try.func52 rfl rfl rfl (show FnT _ _ _ _ _ _ (fun u ρ => u = .tuple #[] ∧ NewS b { (oper s).2 with fs := delS s.fs n } ρ) from (del_idx hg.inc hff) ▸ remove_any' (s := { (oper s).2 with fs := s.fs }) (idxS s.fs n) hxl hcnt)) ?_
          rintro _ _ ⟨rfl, a79, m79, c79, rfl⟩
          refine wl_nil ?_
          refine st_tn ?_
          refine w_seq ?_
          refine w_seq ?_
          refine w_region ?_
          refine wl_det rfl rfl rfl (op_move rfl) ?_
          refine wl_det rfl rfl rfl (op_move rfl) ?_
          refine wl_det rfl rfl rfl (op_fn Try.func49 rfl rfl rfl (index_any (s := { (oper s).2 with fs := delS s.fs n }) o hgd (celS (l := 603) rfl) (Sl.lab 604 rfl (by unfold maxLen; dsimp only; omega)))) ?_
          refine wl_det rfl rfl rfl (op_move rfl) ?_
          refine wl_det rfl rfl rfl (op_extract rfl rfl) ?_
          refine wl_det rfl rfl rfl (op_extract rfl rfl) ?_
          refine wl_det rfl rfl rfl (op_assign rfl) ?_
          refine wl_det rfl rfl rfl (op_assign rfl) ?_
          refine wl_nil ?_
          refine st_tn ?_
          refine w_seq ?_
          refine w_region ?_
          refine wl_det rfl rfl rfl (op_move rfl) ?_
          refine wl_nil ?_
          refine st_tn ?_
          refine w_cond rfl (fun hc86 => ?_) (fun hc86 => ?_)
          · -- c86.t
            obtain ⟨g, hgg⟩ := Option.isSome_iff_exists.1 hc86
            have hgl := ltE (at_idx hgd.inc hgg)
            refine w_region ?_
            refine wl_det rfl rfl rfl (op_move rfl) ?_
            refine wl_det rfl rfl rfl (op_move rfl) ?_
            refine wl_op [603, 604] rfl rfl rfl rfl (op_fn Try.func52 rfl rfl rfl (show FnT _ _ _ _ _ _ (fun u ρ => u = .tuple #[] ∧ NewS b { (oper s).2 with fs := delS (delS s.fs n) o } ρ) from (del_idx hgd.inc hgg) ▸ remove_any' (s := { (oper s).2 with fs := delS s.fs n }) (idxS (delS s.fs n) o) hgl hdl)) ?_
            rintro _ _ ⟨rfl, a89, m89, c89, rfl⟩
            refine wl_nil ?_
            refine st_tn ?_
            refine w_seq ?_
            refine w_region ?_
            refine wl_det rfl rfl rfl (op_move rfl) ?_
            refine wl_det rfl rfl rfl (op_fieldAddr (off := 0) rfl tF51_0h) ?_
            refine wl_op0 [13] rfl rfl rfl (op_store rfl rfl tZ9h (by rfl) (by rfl) (by exact Nat.le_of_ble_eq_true rfl)) ?_
            rintro _ _ ⟨rfl, rfl⟩
            refine wl_nil ?_
            refine st_tn ?_
            refine w_region ?_
            refine wl_det rfl rfl rfl (op_move rfl) ?_
            refine wl_det rfl rfl rfl (op_loadA rfl tA51h (Ent.lab (l := 13) rfl (says_cel 0)) (Nat.le_of_ble_eq_true rfl)) ?_
            refine wl_op [603, 604] rfl rfl rfl rfl (op_fn Try.func50 rfl rfl rfl (insert_any (s := { (oper s).2 with fs := delS (delS s.fs n) o }) o f (Good.del hgd o) find_del_self)) ?_
            rintro _ _ ⟨rfl, a94, m94, c94, rfl⟩
            refine wl_nil ?_
            refine st_bn ?_
            refine st_tn ?_
            refine w_seq ?_
            refine w_region ?_
            refine wl_det rfl rfl rfl (op_assign rfl) ?_
            refine wl_nil ?_
            refine st_tn ?_
            refine w_ret ?_
            refine st_ret (vs := [_]) [603, 604] Try.results40 ⟨rfl, trivial⟩ rfl ?_
            refine ⟨[(603, _), (604, _)], rfl, ?_⟩
            rw [ren_done hc28 hff (by simpa using hc39)]; refine ⟨rfl, a94, m94, c94, ?_⟩
            rw [set_del_same hgd.inc]
          · -- c86.f
            have hgn : find (delS s.fs n) o = none := by simpa using hc86
            refine w_skip ?_
            refine st_tn ?_
            refine w_seq ?_
            refine w_region ?_
            refine wl_det rfl rfl rfl (op_move rfl) ?_
            refine wl_det rfl rfl rfl (op_fieldAddr (off := 0) rfl tF51_0h) ?_
            refine wl_op0 [13] rfl rfl rfl (op_store rfl rfl tZ9h (by rfl) (by rfl) (by exact Nat.le_of_ble_eq_true rfl)) ?_
            rintro _ _ ⟨rfl, rfl⟩
            refine wl_nil ?_
            refine st_tn ?_
            refine w_region ?_
            refine wl_det rfl rfl rfl (op_move rfl) ?_
            refine wl_det rfl rfl rfl (op_loadA rfl tA51h (Ent.lab (l := 13) rfl (says_cel 0)) (Nat.le_of_ble_eq_true rfl)) ?_
            refine wl_op [603, 604] rfl rfl rfl rfl (op_fn Try.func50 rfl rfl rfl (insert_any (s := { (oper s).2 with fs := delS s.fs n }) o f hgd hgn)) ?_
            rintro _ _ ⟨rfl, a94, m94, c94, rfl⟩
            refine wl_nil ?_
            refine st_bn ?_
            refine st_tn ?_
            refine w_seq ?_
            refine w_region ?_
            refine wl_det rfl rfl rfl (op_assign rfl) ?_
            refine wl_nil ?_
            refine st_tn ?_
            refine w_ret ?_
            refine st_ret (vs := [_]) [603, 604] Try.results40 ⟨rfl, trivial⟩ rfl ?_
            refine ⟨[(603, _), (604, _)], rfl, ?_⟩
            rw [ren_done hc28 hff (by simpa using hc39)]; exact ⟨rfl, a94, m94, c94, rfl⟩
        · -- c73.f
          refine w_skip ?_
          refine st_bn ?_
          refine st_tn ?_
          refine w_seq ?_
          refine w_region ?_
          refine wl_det rfl rfl rfl (op_assign rfl) ?_
          refine wl_nil ?_
          refine st_tn ?_
          refine w_ret ?_
          refine st_ret (vs := [_]) [603, 604] Try.results40 ⟨rfl, trivial⟩ rfl ?_
          refine ⟨[(603, _), (604, _)], rfl, ?_⟩
          rw [ren_done hc28 hff (by simpa using hc39)]; refine ⟨rfl, a, m, c, ?_⟩
          have hno : n = o := by simpa using hc73
          subst hno
          rw [set_del_self hg.inc hff]; rfl

end Go.Proofs.Ytjlbeakdgadpmaa
