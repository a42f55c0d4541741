/- Contracts: the law's coarsen and total, and the law SeriesChanges (layer 43). Conditions: none. -/
import Derived.Test.YtbgddblfalahfaaS8
namespace Go.Proofs.Ytbgddblfalahfaa
open Go Go.SL Go.RowKit
set_option linter.unusedVariables false
set_option linter.unusedSimpArgs false
theorem tA48i : aggB Try.prog 48 7 = true := by kernel_rfl
theorem tF48_2i : fieldB Try.prog 48 2 2 = true := by kernel_rfl
theorem tF48_4i : fieldB Try.prog 48 4 5 = true := by kernel_rfl
theorem tF48_5i : fieldB Try.prog 48 5 6 = true := by kernel_rfl
theorem tL25_1i : zerosB Try.prog 25 3 1 1 = some [Value.int .i64 0] := by kernel_rfl
theorem tMixi : Try.prog.follows .mixedOrders = true := by kernel_rfl
theorem tN48i : (Try.prog.info? 48).bind (·.zero) = some (Value.agg #[Value.string .empty, Value.string .empty, Value.int .i64 0, Value.int .i64 0, Value.int .i64 0, Value.int .i64 0, Value.slice none 0 0]) := by kernel_rfl
theorem tO25i : oneB Try.prog 25 = true := by kernel_rfl
theorem tO3i : oneB Try.prog 3 = true := by kernel_rfl
theorem tP25i : appB Try.prog 25 3 1 8 = true := by kernel_rfl
theorem tS25i : sliceB Try.prog 25 3 1 = true := by kernel_rfl
theorem tZ25i : (Try.prog.info? 25).map (·.size) = some 1 := by kernel_rfl
theorem tZ3i : (Try.prog.info? 3).map (·.size) = some 1 := by kernel_rfl
theorem tZ48i : (Try.prog.info? 48).map (·.size) = some 7 := by kernel_rfl

-- CALL sleuth/sleuthlaw43.total total_any _ _ {s0} (by omega) (by assumption)
set_option maxHeartbeats 1000000 in
set_option maxRecDepth 100000 in
theorem total_any {σ : World} {F : List Res} {a : Option Addr} {c : Nat} {l : List Int} (k : SK) (fr : Int) (h : Sl σ F encZ 1 (.slice a l.length c) l) (hl : l.length ≤ 1048576) (hv : ∀ x ∈ l, 0 ≤ x ∧ x ≤ 1099511627776) :
    FnT Try.prog σ F 29 [sr k fr (.slice a l.length c)] [] (fun u ρ => u = .int .i64 l.sum ∧ ρ = []) := by
  refine fn_of 20 Try.func29 rfl Try.ntmps29 rfl ?_
  have hle := h.i64
  refine w_seq ?_
  refine w_region ?_
  refine wl_op [] rfl rfl rfl rfl (op_box (T := 48) (l := 1) rfl) ?_
  rintro _ _ ⟨b1, rfl, rfl⟩
  refine wl_det rfl rfl rfl (op_assign rfl) ?_
  refine wl_nil ?_
  refine st_tn ?_
  refine w_seq ?_
  refine w_region ?_
  refine wl_det rfl rfl rfl (op_assign rfl) ?_
  refine wl_nil ?_
  refine st_tn ?_
  refine w_seq ?_
  refine w_seq ?_
  refine w_region ?_
  refine wl_det rfl rfl rfl (op_assign rfl) ?_
  refine wl_nil ?_
  refine st_tn ?_
  refine w_block ?_
  refine w_loopQ (X := Int × Nat) (fun z => z.2 ≤ l.length ∧ z.1 = (l.take z.2).sum ∧ 0 ≤ z.1 ∧ z.1 ≤ z.2 * 1099511627776) (fun z => [(3, .int .i64 (z.1)), (4, .int .i64 (z.2))]) (fun _ => []) (fun z => l.length - z.2) ((_, 0)) [(1, _)] [(1, _)] [1] rfl (rfl) (.cons rfl (.cons rfl (.nil _))) (.cons rfl (.nil _)) (by
      try dsimp only
      exact ⟨Nat.zero_le _, rfl, by omega, by omega⟩) ?_
  rintro ⟨s, i⟩ ⟨hi, hs, hs0, hs1⟩
  refine w_norm2 (by dsimp only [List.cons_append, List.nil_append]) (by dsimp only [List.cons_append, List.nil_append]) ?_
  try dsimp only at hi hs hs0 hs1 ⊢
  refine w_seq ?_
  refine w_seq ?_
  refine w_region ?_
  refine wl_det rfl rfl rfl (op_move rfl) ?_
  refine wl_det rfl rfl rfl (op_fieldAddr (off := 6) rfl tF48_5i) ?_
  refine wl_det rfl rfl rfl (op_load1 rfl tO25i (Ent.lab (l := 1) rfl (says_cel 6))) ?_
  refine wl_det rfl rfl rfl (op_lenT rfl tS25i (Sl.ent (by first | exact Sl.app (by assumption) _ | exact Sl.app (Sl.app (by assumption) _) _))) ?_
  refine wl_det rfl rfl rfl (op_lss rfl rfl) ?_
  refine wl_nil ?_
  refine st_tn ?_
  refine w_cond_d rfl (fun hc9 => ?_) (fun hc9 => ?_)
  · -- c9.t
    obtain ⟨x, hx⟩ := getE (l := l) (i := i) (by omega)
    have hxb := hv x (List.mem_of_getElem? hx)
    refine w_skip ?_
    refine st_tn ?_
    refine w_seq ?_
    refine w_block ?_
    refine w_region ?_
    refine wl_det rfl rfl rfl (op_move rfl) ?_
    refine wl_det rfl rfl rfl (op_fieldAddr (off := 6) rfl tF48_5i) ?_
    refine wl_det rfl rfl rfl (op_load1 rfl tO25i (Ent.lab (l := 1) rfl (says_cel 6))) ?_
    refine wl_det rfl rfl rfl (op_move rfl) ?_
    refine wl_det rfl rfl rfl (op_idx rfl rfl tS25i (Sl.ent (by first | exact Sl.app (by assumption) _ | exact Sl.app (Sl.app (by assumption) _) _)) (by omega)) ?_
    refine wl_det rfl rfl rfl (op_ldx rfl tO3i (by first | exact Sl.app (by assumption) _ | exact Sl.app (Sl.app (by assumption) _) _) (by assumption) (by rfl)) ?_
    refine wl_det rfl rfl rfl (op_add' rfl rfl (by omega)) ?_
    refine wl_det rfl rfl rfl (op_assign rfl) ?_
    refine wl_nil ?_
    refine st_bn ?_
    refine st_tn ?_
    refine w_region ?_
    refine wl_det rfl rfl rfl (op_move rfl) ?_
    refine wl_det rfl rfl rfl (op_add' rfl rfl (by omega)) ?_
    refine wl_det rfl rfl rfl (op_assign rfl) ?_
    refine wl_nil ?_
    refine st_roundQ (x := (s, i)) ((_, i + 1)) [1] rfl (rfl) (.cons rfl (.cons rfl (.nil _))) (.cons rfl (.nil _)) (by
        try dsimp only
        refine ⟨by omega, ?_, by omega, by omega⟩
        rw [take_snoc hx, List.sum_append, ← hs]; simp) (by
        try dsimp only
        omega) 
  · -- c9.f
    refine w_exit ?_
    refine st_te ?_
    refine st_te ?_
    refine st_be ?_
    refine st_tn ?_
    refine w_seq ?_
    refine w_region ?_
    refine wl_det rfl rfl rfl (op_move rfl) ?_
    refine wl_det rfl rfl rfl (op_assign rfl) ?_
    refine wl_nil ?_
    refine st_tn ?_
    refine w_ret ?_
    refine st_ret (vs := [_]) [] Try.results29 ⟨rfl, trivial⟩ rfl ?_
    refine ⟨_, rfl, ?_⟩
    rw [take_all (by omega)] at hs; subst hs; exact ⟨rfl, rfl⟩

set_option maxHeartbeats 4000000 in
set_option maxRecDepth 100000 in
theorem lcoarsen_any {σ : World} {F : List Res} {a : Option Addr} {c : Nat} {l : List Int} (lab : Nat) (k : SK) (fr sz : Int) (h : Sl σ F encZ 1 (.slice a l.length c) l) (hl : l.length ≤ 1048576) (hf : 0 ≤ fr ∧ fr ≤ 1048576) (hv : ∀ x ∈ l, 0 ≤ x ∧ x ≤ 1099511627776) (hsz : 1 ≤ sz ∧ sz ≤ 1048576) :
    FnT Try.prog σ F 28 [sr k fr (.slice a l.length c), .int .i64 sz] [] (fun u ρ => ∃ m a c, m = coarseN (decide (k.met = 3)) fr sz l l.length ∧ u = sr k (fr / sz) (.slice a m.length c) ∧ ρ = [(lab, slW 3 encZ 1 (.slice a m.length c) m)]) := by
  refine fn_of 75 Try.func28 rfl Try.ntmps28 rfl ?_
  have hle := h.i64
  have hdv : fr / sz ≤ 1048576 := by have := Int.ediv_le_self sz hf.1; omega
  have hdv0 : 0 ≤ fr / sz := Int.ediv_nonneg hf.1 (by omega)
  refine w_seq ?_
  refine w_region ?_
  refine wl_op [] rfl rfl rfl rfl (op_box (T := 48) (l := 2) rfl) ?_
  rintro _ _ ⟨b2, rfl, rfl⟩
  refine wl_op [] rfl rfl rfl rfl (op_alloc (l := 4) tN48i) ?_
  rintro _ _ ⟨b4, rfl, rfl⟩
  refine wl_nil ?_
  refine st_tn ?_
  refine w_seq ?_
  refine w_region ?_
  refine wl_det rfl rfl rfl (op_loadA rfl tA48i (Ent.lab (l := 2) rfl (says_cel 0)) (Nat.le_of_ble_eq_true rfl)) ?_
  refine wl_op [] rfl rfl rfl rfl (op_alloc (l := 5) tN48i) ?_
  rintro _ _ ⟨b5, rfl, rfl⟩
  refine wl_op0 [5] rfl rfl rfl (op_store rfl rfl tZ48i (by rfl) (by rfl) (by exact Nat.le_of_ble_eq_true rfl)) ?_
  rintro _ _ ⟨rfl, rfl⟩
  refine wl_nil ?_
  refine st_tn ?_
  refine w_seq ?_
  refine w_region ?_
  refine wl_det rfl rfl rfl (op_fieldAddr (off := 5) rfl tF48_4i) ?_
  refine wl_det rfl rfl rfl (op_load1 rfl tO3i (Ent.lab (l := 2) rfl (says_cel 5))) ?_
  refine wl_det rfl rfl rfl (op_move rfl) ?_
  refine wl_det rfl rfl rfl (op_quoN rfl rfl (by omega) (by omega) (by omega)) ?_
  refine wl_det rfl rfl rfl (op_fieldAddr (off := 5) rfl tF48_4i) ?_
  refine wl_op0 [5] rfl rfl rfl (op_store rfl rfl tZ3i (by rfl) (by rfl) (by exact Nat.le_of_ble_eq_true rfl)) ?_
  rintro _ _ ⟨rfl, rfl⟩
  refine wl_det rfl rfl rfl (op_fieldAddr (off := 6) rfl tF48_5i) ?_
  refine wl_op0 [5] rfl rfl rfl (op_store rfl rfl tZ25i (by rfl) (by rfl) (by exact Nat.le_of_ble_eq_true rfl)) ?_
  rintro _ _ ⟨rfl, rfl⟩
  refine wl_nil ?_
  refine st_tn ?_
  refine w_seq ?_
  refine w_seq ?_
  refine w_region ?_
  refine wl_det rfl rfl rfl (op_assign rfl) ?_
  refine wl_nil ?_
  refine st_tn ?_
  refine w_block ?_
  refine w_emp 95 (slO_nil 3 1) ?_
  refine w_loopQ (X := Nat × List Int × Option Addr × Nat) (fun z => z.1 ≤ l.length ∧ z.2.1 = coarseN (decide (k.met = 3)) fr sz l z.1) (fun z => [(6, .int .i64 (z.1))]) (fun z => [(95, slW 3 encZ 1 (.slice (z.2.2.1) (z.2.1).length (z.2.2.2)) (z.2.1)), (5, cel b5 [.string k.svc, .string k.op, .int .i64 k.met, .int .i64 k.qn, .int .i64 k.qd, .int .i64 (fr / sz), .slice (z.2.2.1) (z.2.1).length (z.2.2.2)] 48)]) (fun z => l.length - z.1) ((0, [], none, 0)) [(1, _), (2, _), (4, _), (5, _)] [(2, _), (4, _)] [95, 5, 2, 4] rfl (rfl) (.cons rfl (.nil _)) (.cons rfl (.cons rfl (.cons rfl (.cons rfl (.nil _))))) (by
      try dsimp only
      exact ⟨Nat.zero_le _, rfl⟩) ?_
  rintro ⟨i, out, a_out, c_out⟩ ⟨hi, ho⟩
  refine w_norm2 (by dsimp only [List.cons_append, List.nil_append]) (by dsimp only [List.cons_append, List.nil_append]) ?_
  try dsimp only at hi ho ⊢
  refine w_seq ?_
  refine w_seq ?_
  refine w_region ?_
  refine wl_det rfl rfl rfl (op_move rfl) ?_
  refine wl_det rfl rfl rfl (op_fieldAddr (off := 6) rfl tF48_5i) ?_
  refine wl_det rfl rfl rfl (op_load1 rfl tO25i (Ent.lab (l := 2) rfl (says_cel 6))) ?_
  refine wl_det rfl rfl rfl (op_lenT rfl tS25i (Sl.ent (by first | exact Sl.app (by assumption) _ | exact Sl.app (Sl.app (by assumption) _) _))) ?_
  refine wl_det rfl rfl rfl (op_lss rfl rfl) ?_
  refine wl_nil ?_
  refine st_tn ?_
  refine w_cond_d rfl (fun hc19 => ?_) (fun hc19 => ?_)
  · -- c19.t
    obtain ⟨x, hx⟩ := getE (l := l) (i := i) (by omega)
    have hlt := ltE hx
    have hxb := hv x (List.mem_of_getElem? hx)
    have hgd : l.getD i 0 = x := by rw [List.getD_eq_getElem?_getD, hx]; rfl
    have hcc := coarse_cell (lat := decide (k.met = 3)) (fr := fr) (sz := sz) (by omega) (l := l) i
    rw [← ho] at hcc
    have hdi : (fr + i) / sz ≤ fr + i := Int.ediv_le_self sz (by omega)
    have hol := coarse_bd (lat := decide (k.met = 3)) (fr := fr) (sz := sz) (B := 1099511627776) (by omega) hv i
    rw [← ho] at hol
    have hole := coarse_le (lat := decide (k.met = 3)) (fr := fr) (sz := sz) (l := l) i
    rw [← ho] at hole
    refine w_skip ?_
    refine st_tn ?_
    refine w_seq ?_
    refine w_block ?_
    refine w_seq ?_
    refine w_drawW (fun β => [⟨22, [], [], [], noW (_), false, [], []⟩, ⟨23, [0], [], [], noW (_), false, [], []⟩, ⟨24, [], [], [], noW (_), false, [], []⟩, ⟨25, [1, 2], [], [], noW (_), false, [], []⟩, ⟨26, [], [], [], noW (_), false, [], []⟩, ⟨27, [3, 4], [], [], noW (_), false, [], []⟩, ⟨28, [], [], [], noW (_), false, [], []⟩, ⟨29, [6], [], [], noW (_), false, [], []⟩]) [] [2, 6, 1, 5] [⟨22, [], [], false, [], []⟩, ⟨23, [0], [], false, [], []⟩, ⟨24, [], [], false, [], []⟩, ⟨25, [1, 2], [], false, [], []⟩, ⟨26, [], [], false, [], []⟩, ⟨27, [3, 4], [], false, [], []⟩, ⟨28, [], [], false, [], []⟩, ⟨29, [6], [], false, [], []⟩] [[], [], [], [], [], [], [], []] [[], [], [], [], [], [], [], []] tMixi (fun _ => by rfl) (fun _ => by rfl) (by kernel_rfl) (by kernel_rfl) (by rfl) (by rfl)
        (fun β => ⟨.p rfl (by intro X; exact op_fieldAddr (off := 5) rfl tF48_4i),
        ⟨.p rfl (by intro X; rintro _ _ ⟨rfl, rfl⟩; exact op_load1 rfl tO3i (Ent.lab (l := 2) rfl (says_cel 5))),
        ⟨.p rfl (by intro X; exact op_move rfl),
        ⟨.p rfl (by intro X; rintro _ _ ⟨rfl, rfl⟩ _ _ ⟨rfl, rfl⟩; exact op_add' rfl rfl (by omega)),
        ⟨.p rfl (by intro X; exact op_move rfl),
        ⟨.p rfl (by intro X; rintro _ _ ⟨rfl, rfl⟩ _ _ ⟨rfl, rfl⟩; exact op_quoN rfl rfl (by omega) (by omega) (by omega)),
        ⟨.p rfl (by intro X; exact op_fieldAddr (off := 5) rfl tF48_4i),
        ⟨.p rfl (by intro X; rintro _ _ ⟨rfl, rfl⟩; exact op_load1 rfl tO3i (Ent.lab (l := 5) rfl (says_cel 5))),
        trivial⟩⟩⟩⟩⟩⟩⟩⟩)
        (fun β β' => ⟨fun _ => by rfl, ⟨fun _ => by rfl, ⟨fun _ => by rfl, ⟨fun _ => by rfl, ⟨fun _ => by rfl, ⟨fun _ => by rfl, ⟨fun _ => by rfl, ⟨fun _ => by rfl, trivial⟩⟩⟩⟩⟩⟩⟩⟩) ?_
    intro β
    rintro _ _ ⟨rfl, rfl⟩ _ _ ⟨rfl, rfl⟩ _ _ ⟨rfl, rfl⟩ _ _ ⟨rfl, rfl⟩ _ _ ⟨rfl, rfl⟩ _ _ ⟨rfl, rfl⟩ _ _ ⟨rfl, rfl⟩ _ _ ⟨rfl, rfl⟩
    refine wl_norm (e' := [(1, _), (2, _), (4, _), (5, _), (6, _), (27, _), (29, _)]) (.cons rfl (.cons rfl (.cons rfl (.cons rfl (.cons rfl (.cons rfl (.cons rfl (.nil _)))))))) (by dsimp only [cond_false, cond_true, List.nil_append, List.cons_append]) ?_
    refine wl_det rfl rfl rfl (op_sub' rfl rfl (by omega)) ?_
    refine wl_det rfl rfl rfl (op_assign rfl) ?_
    refine wl_nil ?_
    refine st_tn ?_
    refine w_seq ?_
    refine w_block ?_
    refine w_loopQ (X := List Int × Option Addr × Nat) (fun z => z.1.length ≤ out.length + 1 ∧ (z.1 = out ∨ (z.1 = out ++ [0] ∧ (fr + i) / sz - fr / sz = out.length))) (fun z => []) (fun z => [(95, slW 3 encZ 1 (.slice (z.2.1) (z.1).length (z.2.2)) (z.1)), (5, cel b5 [.string k.svc, .string k.op, .int .i64 k.met, .int .i64 k.qn, .int .i64 k.qd, .int .i64 (fr / sz), .slice (z.2.1) (z.1).length (z.2.2)] 48)]) (fun z => (((fr + i) / sz - fr / sz + 1 - z.1.length).toNat)) ((_, _, _)) [(1, _), (2, _), (4, _), (5, _), (6, _), (7, _)] [(2, _), (4, _)] [95, 5, 2, 4] rfl (rfl) (.nil _) (.cons rfl (.cons rfl (.cons rfl (.cons rfl (.cons rfl (.cons rfl (.nil _))))))) (by
        try dsimp only
        exact ⟨by omega, .inl rfl⟩) ?_
    rintro ⟨out2, a_out2, c_out2⟩ ⟨hol2, ho2⟩
    refine w_norm2 (by dsimp only [List.cons_append, List.nil_append]) (by dsimp only [List.cons_append, List.nil_append]) ?_
    try dsimp only at hol2 ho2 ⊢
    refine w_seq ?_
    refine w_seq ?_
    refine w_region ?_
    refine wl_det rfl rfl rfl (op_fieldAddr (off := 6) rfl tF48_5i) ?_
    refine wl_det rfl rfl rfl (op_load1 rfl tO25i (Ent.lab (l := 5) rfl (says_cel 6))) ?_
    refine wl_det rfl rfl rfl (op_lenT rfl tS25i (Sl.ent (Sl.lab 95 rfl (by unfold maxLen; omega)))) ?_
    refine wl_det rfl rfl rfl (op_move rfl) ?_
    refine wl_det rfl rfl rfl (op_leq rfl rfl) ?_
    refine wl_nil ?_
    refine st_tn ?_
    refine w_cond_d rfl (fun hc35 => ?_) (fun hc35 => ?_)
    · -- c35.t
      refine w_skip ?_
      refine st_tn ?_
      refine w_block ?_
      refine w_region ?_
      refine wl_det rfl rfl rfl (op_fieldAddr (off := 6) rfl tF48_5i) ?_
      refine wl_det rfl rfl rfl (op_load1 rfl tO25i (Ent.lab (l := 5) rfl (says_cel 6))) ?_
      refine wl_op [] rfl rfl rfl rfl (op_buildSlice (enc := encZ) (l := [_]) (lab := 38) tL25_1i rfl rfl (fun _ => rfl) rfl) ?_
      rintro _ _ ⟨a38, c38, rfl, rfl⟩
      refine wl_op [95] rfl rfl rfl rfl (op_append (lab := 95) (lab' := 39) rfl rfl tP25i enc1Z (Sl.lab 38 rfl (by simp [maxLen])) (by first | omega | (simp; done) | (simp; omega) | (simp [*]; omega)) (by first | omega | (simp; done) | (simp; omega) | (simp [*]; omega))) ?_
      rintro _ _ ⟨a39, c39, rfl, rfl⟩
      refine wl_det rfl rfl rfl (op_fieldAddr (off := 6) rfl tF48_5i) ?_
      refine wl_op0 [5] rfl rfl rfl (op_store rfl rfl tZ25i (by rfl) (by rfl) (by exact Nat.le_of_ble_eq_true rfl)) ?_
      rintro _ _ ⟨rfl, rfl⟩
      refine wl_nil ?_
      refine st_bn ?_
      refine st_roundQ (x := (out2, a_out2, c_out2)) ((_, _, _)) [39, 5, 2, 4] rfl (rfl) (.nil _) (.cons rfl (.cons rfl (.cons rfl (.cons rfl (.cons rfl (.cons rfl (.nil _))))))) (by
          try dsimp only
          rcases ho2 with rfl | ⟨rfl, h2⟩
          · exact ⟨by rw [List.length_append, List.length_singleton]; omega, .inr ⟨rfl, by omega⟩⟩
          · rw [List.length_append, List.length_singleton] at hc35; omega) (by
          try dsimp only
          rw [List.length_append, List.length_singleton]; omega) 
    · -- c35.f
      obtain ⟨y, hy⟩ := getE (l := out2) (i := ((fr + i) / sz - fr / sz).toNat) (by omega)
      have hyb : 0 ≤ y ∧ y ≤ i * 1099511627776 := by
        rcases ho2 with rfl | ⟨rfl, h2⟩
        · exact hol y (List.mem_of_getElem? hy)
        · rcases List.mem_append.1 (List.mem_of_getElem? hy) with h3 | h3
          · exact hol y h3
          · simp only [List.mem_singleton] at h3; omega
      have hst : ∀ q : Int, (q = if decide (k.met = 3) = true then max y x else y + x) → out2.set ((fr + i) / sz - fr / sz).toNat q = cstep (decide (k.met = 3)) out ((fr + i) / sz - fr / sz).toNat x := fun q hq => by
        unfold cstep
        rcases ho2 with rfl | ⟨rfl, h2⟩
        · rw [if_neg (by omega), hq, List.getD_eq_getElem?_getD, hy]; rfl
        · have h3 : ((fr + i) / sz - fr / sz).toNat = out.length := by omega
          rw [if_pos h3, h3]
          rw [h3, List.getElem?_append_right (Nat.le_refl _)] at hy
          simp at hy
          subst hy
          rw [show q = x by rw [hq]; split <;> omega]
          simp
      refine w_exit ?_
      refine st_te ?_
      refine st_te ?_
      refine st_be ?_
      refine st_tn ?_
      refine w_seq ?_
      refine w_region ?_
      refine wl_det rfl rfl rfl (op_fieldAddr (off := 2) rfl tF48_2i) ?_
      refine wl_det rfl rfl rfl (op_load1 rfl tO3i (Ent.lab (l := 2) rfl (says_cel 2))) ?_
      refine wl_det rfl rfl rfl (op_eql rfl rfl) ?_
      refine wl_nil ?_
      refine st_tn ?_
      refine w_cond_d rfl (fun hc43 => ?_) (fun hc43 => ?_)
      · -- c43.t
        have hstep := hst (max y x) (by rw [decide_eq_true hc43]; rfl)
        refine w_drawW (fun β => [⟨44, [], [], [], noW (_), false, [], []⟩, ⟨45, [0], [], [], noW (_), false, [], []⟩, ⟨46, [], [], [], noW (_), false, [], []⟩, ⟨47, [], [], [], noW (_), false, [], []⟩, ⟨48, [3], [], [], noW (_), false, [], []⟩, ⟨49, [], [], [], noW (_), false, [], []⟩, ⟨50, [4, 5], [], [], noW (_), false, [], []⟩, ⟨51, [6], [], [], noW (_), false, [], []⟩, ⟨52, [], [], [], noW (_), false, [], []⟩, ⟨53, [8], [], [], noW (_), false, [], []⟩, ⟨54, [], [], [], noW (_), false, [], []⟩, ⟨55, [9, 10], [], [], noW (_), false, [], []⟩, ⟨56, [11], [], [], noW (_), false, [], []⟩, ⟨57, [7, 12], [], [], noW (_), false, [], []⟩]) [] [5, 7, 2, 6] [⟨44, [], [], false, [], []⟩, ⟨45, [0], [], false, [], []⟩, ⟨46, [], [], false, [], []⟩, ⟨47, [], [], false, [], []⟩, ⟨48, [3], [], false, [], []⟩, ⟨49, [], [], false, [], []⟩, ⟨50, [4, 5], [], false, [], []⟩, ⟨51, [6], [], false, [], []⟩, ⟨52, [], [], false, [], []⟩, ⟨53, [8], [], false, [], []⟩, ⟨54, [], [], false, [], []⟩, ⟨55, [9, 10], [], false, [], []⟩, ⟨56, [11], [], false, [], []⟩, ⟨57, [7, 12], [], false, [], []⟩] [[], [], [], [], [], [], [], [], [], [], [], [], [], []] [[], [], [], [], [], [], [], [], [], [], [], [], [], []] tMixi (fun _ => by rfl) (fun _ => by rfl) (by kernel_rfl) (by kernel_rfl) (by rfl) (by rfl)
            (fun β => ⟨.p rfl (by intro X; exact op_fieldAddr (off := 6) rfl tF48_5i),
            ⟨.p rfl (by intro X; rintro _ _ ⟨rfl, rfl⟩; exact op_load1 rfl tO25i (Ent.lab (l := 5) rfl (says_cel 6))),
            ⟨.p rfl (by intro X; exact op_move rfl),
            ⟨.p rfl (by intro X; exact op_fieldAddr (off := 6) rfl tF48_5i),
            ⟨.p rfl (by intro X; rintro _ _ ⟨rfl, rfl⟩; exact op_load1 rfl tO25i (Ent.lab (l := 5) rfl (says_cel 6))),
            ⟨.p rfl (by intro X; exact op_move rfl),
            ⟨.p rfl (by intro X; rintro _ _ ⟨rfl, rfl⟩ _ _ ⟨rfl, rfl⟩; exact op_idxZ rfl rfl tS25i (Sl.ent (Sl.lab 95 rfl (by unfold maxLen; omega))) (by omega) (by omega)),
            ⟨.p rfl (by intro X; rintro _ _ ⟨rfl, rfl⟩; exact op_ldx rfl tO3i (Sl.lab 95 rfl (by unfold maxLen; omega)) (by assumption) (by rfl)),
            ⟨.p rfl (by intro X; exact op_fieldAddr (off := 6) rfl tF48_5i),
            ⟨.p rfl (by intro X; rintro _ _ ⟨rfl, rfl⟩; exact op_load1 rfl tO25i (Ent.lab (l := 2) rfl (says_cel 6))),
            ⟨.p rfl (by intro X; exact op_move rfl),
            ⟨.p rfl (by intro X; rintro _ _ ⟨rfl, rfl⟩ _ _ ⟨rfl, rfl⟩; exact op_idx rfl rfl tS25i (Sl.ent (by first | exact Sl.app (by assumption) _ | exact Sl.app (Sl.app (by assumption) _) _)) (by omega)),
            ⟨.p rfl (by intro X; rintro _ _ ⟨rfl, rfl⟩; exact op_ldx rfl tO3i (by first | exact Sl.app (by assumption) _ | exact Sl.app (Sl.app (by assumption) _) _) (by assumption) (by rfl)),
            ⟨.p rfl (by intro X; rintro _ _ ⟨rfl, rfl⟩ _ _ ⟨rfl, rfl⟩; exact op_max rfl rfl),
            trivial⟩⟩⟩⟩⟩⟩⟩⟩⟩⟩⟩⟩⟩⟩)
            (fun β β' => ⟨fun _ => by rfl, ⟨fun _ => by rfl, ⟨fun _ => by rfl, ⟨fun _ => by rfl, ⟨fun _ => by rfl, ⟨fun _ => by rfl, ⟨fun _ => by rfl, ⟨fun _ => by rfl, ⟨fun _ => by rfl, ⟨fun _ => by rfl, ⟨fun _ => by rfl, ⟨fun _ => by rfl, ⟨fun _ => by rfl, ⟨fun _ => by rfl, trivial⟩⟩⟩⟩⟩⟩⟩⟩⟩⟩⟩⟩⟩⟩) ?_
        intro β
        rintro _ _ ⟨rfl, rfl⟩ _ _ ⟨rfl, rfl⟩ _ _ ⟨rfl, rfl⟩ _ _ ⟨rfl, rfl⟩ _ _ ⟨rfl, rfl⟩ _ _ ⟨rfl, rfl⟩ _ _ ⟨rfl, rfl⟩ _ _ ⟨rfl, rfl⟩ _ _ ⟨rfl, rfl⟩ _ _ ⟨rfl, rfl⟩ _ _ ⟨rfl, rfl⟩ _ _ ⟨rfl, rfl⟩ _ _ ⟨rfl, rfl⟩ _ _ ⟨rfl, rfl⟩
        refine wl_norm (e' := [(1, _), (2, _), (4, _), (5, _), (6, _), (45, _), (46, _), (57, _)]) (.cons rfl (.cons rfl (.cons rfl (.cons rfl (.cons rfl (.cons rfl (.cons rfl (.cons rfl (.nil _))))))))) (by dsimp only [cond_false, cond_true, List.nil_append, List.cons_append]) ?_
        refine wl_det rfl rfl rfl (op_idxZ rfl rfl tS25i (Sl.ent (Sl.lab 95 rfl (by unfold maxLen; omega))) (by omega) (by omega)) ?_
        refine wl_op0 [95] rfl rfl rfl (op_storeX (lab := 95) (j := 0) rfl rfl tO3i rfl rfl (by rfl) (by first | assumption | (simp [*]; done)) (Nat.le_of_ble_eq_true rfl) (by rfl)) ?_
        rintro _ _ ⟨rfl, rfl⟩
        refine wl_nil ?_
        refine st_bn ?_
        refine st_tn ?_
        refine w_region ?_
        refine wl_det rfl rfl rfl (op_move rfl) ?_
        refine wl_det rfl rfl rfl (op_add' rfl rfl (by omega)) ?_
        refine wl_det rfl rfl rfl (op_assign rfl) ?_
        refine wl_nil ?_
        refine st_roundQ (x := (i, out, a_out, c_out)) ((i + 1, out2.set ((fr + i) / sz - fr / sz).toNat (max y x), a_out2, c_out2)) [95, 5, 2, 4] rfl (by simp only [List.length_set]; rfl) (.cons rfl (.nil _)) (.cons rfl (.cons rfl (.cons rfl (.cons rfl (.nil _))))) (by
            try dsimp only
            refine ⟨by omega, ?_⟩
            unfold coarseN
            rw [← ho, hgd]
            exact hstep) (by
            try dsimp only
            omega) 
      · -- c43.f
        have hstep := hst (y + x) (by rw [decide_eq_false hc43]; rfl)
        refine w_drawW (fun β => [⟨59, [], [], [], noW (_), false, [], []⟩, ⟨60, [0], [], [], noW (_), false, [], []⟩, ⟨61, [], [], [], noW (_), false, [], []⟩, ⟨62, [], [], [], noW (_), false, [], []⟩, ⟨63, [3], [], [], noW (_), false, [], []⟩, ⟨64, [], [], [], noW (_), false, [], []⟩, ⟨65, [4, 5], [], [], noW (_), false, [], []⟩, ⟨66, [6], [], [], noW (_), false, [], []⟩, ⟨67, [], [], [], noW (_), false, [], []⟩, ⟨68, [8], [], [], noW (_), false, [], []⟩, ⟨69, [], [], [], noW (_), false, [], []⟩, ⟨70, [9, 10], [], [], noW (_), false, [], []⟩, ⟨71, [11], [], [], noW (_), false, [], []⟩, ⟨72, [7, 12], [], [], noW (_), false, [], []⟩]) [] [5, 7, 2, 6] [⟨59, [], [], false, [], []⟩, ⟨60, [0], [], false, [], []⟩, ⟨61, [], [], false, [], []⟩, ⟨62, [], [], false, [], []⟩, ⟨63, [3], [], false, [], []⟩, ⟨64, [], [], false, [], []⟩, ⟨65, [4, 5], [], false, [], []⟩, ⟨66, [6], [], false, [], []⟩, ⟨67, [], [], false, [], []⟩, ⟨68, [8], [], false, [], []⟩, ⟨69, [], [], false, [], []⟩, ⟨70, [9, 10], [], false, [], []⟩, ⟨71, [11], [], false, [], []⟩, ⟨72, [7, 12], [], false, [], []⟩] [[], [], [], [], [], [], [], [], [], [], [], [], [], []] [[], [], [], [], [], [], [], [], [], [], [], [], [], []] tMixi (fun _ => by rfl) (fun _ => by rfl) (by kernel_rfl) (by kernel_rfl) (by rfl) (by rfl)
            (fun β => ⟨.p rfl (by intro X; exact op_fieldAddr (off := 6) rfl tF48_5i),
            ⟨.p rfl (by intro X; rintro _ _ ⟨rfl, rfl⟩; exact op_load1 rfl tO25i (Ent.lab (l := 5) rfl (says_cel 6))),
            ⟨.p rfl (by intro X; exact op_move rfl),
            ⟨.p rfl (by intro X; exact op_fieldAddr (off := 6) rfl tF48_5i),
            ⟨.p rfl (by intro X; rintro _ _ ⟨rfl, rfl⟩; exact op_load1 rfl tO25i (Ent.lab (l := 5) rfl (says_cel 6))),
            ⟨.p rfl (by intro X; exact op_move rfl),
            ⟨.p rfl (by intro X; rintro _ _ ⟨rfl, rfl⟩ _ _ ⟨rfl, rfl⟩; exact op_idxZ rfl rfl tS25i (Sl.ent (Sl.lab 95 rfl (by unfold maxLen; omega))) (by omega) (by omega)),
            ⟨.p rfl (by intro X; rintro _ _ ⟨rfl, rfl⟩; exact op_ldx rfl tO3i (Sl.lab 95 rfl (by unfold maxLen; omega)) (by assumption) (by rfl)),
            ⟨.p rfl (by intro X; exact op_fieldAddr (off := 6) rfl tF48_5i),
            ⟨.p rfl (by intro X; rintro _ _ ⟨rfl, rfl⟩; exact op_load1 rfl tO25i (Ent.lab (l := 2) rfl (says_cel 6))),
            ⟨.p rfl (by intro X; exact op_move rfl),
            ⟨.p rfl (by intro X; rintro _ _ ⟨rfl, rfl⟩ _ _ ⟨rfl, rfl⟩; exact op_idx rfl rfl tS25i (Sl.ent (by first | exact Sl.app (by assumption) _ | exact Sl.app (Sl.app (by assumption) _) _)) (by omega)),
            ⟨.p rfl (by intro X; rintro _ _ ⟨rfl, rfl⟩; exact op_ldx rfl tO3i (by first | exact Sl.app (by assumption) _ | exact Sl.app (Sl.app (by assumption) _) _) (by assumption) (by rfl)),
            ⟨.p rfl (by intro X; rintro _ _ ⟨rfl, rfl⟩ _ _ ⟨rfl, rfl⟩; exact op_add' rfl rfl (by omega)),
            trivial⟩⟩⟩⟩⟩⟩⟩⟩⟩⟩⟩⟩⟩⟩)
            (fun β β' => ⟨fun _ => by rfl, ⟨fun _ => by rfl, ⟨fun _ => by rfl, ⟨fun _ => by rfl, ⟨fun _ => by rfl, ⟨fun _ => by rfl, ⟨fun _ => by rfl, ⟨fun _ => by rfl, ⟨fun _ => by rfl, ⟨fun _ => by rfl, ⟨fun _ => by rfl, ⟨fun _ => by rfl, ⟨fun _ => by rfl, ⟨fun _ => by rfl, trivial⟩⟩⟩⟩⟩⟩⟩⟩⟩⟩⟩⟩⟩⟩) ?_
        intro β
        rintro _ _ ⟨rfl, rfl⟩ _ _ ⟨rfl, rfl⟩ _ _ ⟨rfl, rfl⟩ _ _ ⟨rfl, rfl⟩ _ _ ⟨rfl, rfl⟩ _ _ ⟨rfl, rfl⟩ _ _ ⟨rfl, rfl⟩ _ _ ⟨rfl, rfl⟩ _ _ ⟨rfl, rfl⟩ _ _ ⟨rfl, rfl⟩ _ _ ⟨rfl, rfl⟩ _ _ ⟨rfl, rfl⟩ _ _ ⟨rfl, rfl⟩ _ _ ⟨rfl, rfl⟩
        refine wl_norm (e' := [(1, _), (2, _), (4, _), (5, _), (6, _), (60, _), (61, _), (72, _)]) (.cons rfl (.cons rfl (.cons rfl (.cons rfl (.cons rfl (.cons rfl (.cons rfl (.cons rfl (.nil _))))))))) (by dsimp only [cond_false, cond_true, List.nil_append, List.cons_append]) ?_
        refine wl_det rfl rfl rfl (op_idxZ rfl rfl tS25i (Sl.ent (Sl.lab 95 rfl (by unfold maxLen; omega))) (by omega) (by omega)) ?_
        refine wl_op0 [95] rfl rfl rfl (op_storeX (lab := 95) (j := 0) rfl rfl tO3i rfl rfl (by rfl) (by first | assumption | (simp [*]; done)) (Nat.le_of_ble_eq_true rfl) (by rfl)) ?_
        rintro _ _ ⟨rfl, rfl⟩
        refine wl_nil ?_
        refine st_bn ?_
        refine st_tn ?_
        refine w_region ?_
        refine wl_det rfl rfl rfl (op_move rfl) ?_
        refine wl_det rfl rfl rfl (op_add' rfl rfl (by omega)) ?_
        refine wl_det rfl rfl rfl (op_assign rfl) ?_
        refine wl_nil ?_
        refine st_roundQ (x := (i, out, a_out, c_out)) ((i + 1, out2.set ((fr + i) / sz - fr / sz).toNat (y + x), a_out2, c_out2)) [95, 5, 2, 4] rfl (by simp only [List.length_set]; rfl) (.cons rfl (.nil _)) (.cons rfl (.cons rfl (.cons rfl (.cons rfl (.nil _))))) (by
            try dsimp only
            refine ⟨by omega, ?_⟩
            unfold coarseN
            rw [← ho, hgd]
            exact hstep) (by
            try dsimp only
            omega) 
  · -- c19.f
    refine w_exit ?_
    refine st_te ?_
    refine st_te ?_
    refine st_be ?_
    refine st_tn ?_
    refine w_seq ?_
    refine w_region ?_
    refine wl_det rfl rfl rfl (op_loadA rfl tA48i (Ent.lab (l := 5) rfl (says_cel 0)) (Nat.le_of_ble_eq_true rfl)) ?_
    refine wl_op0 [4] rfl rfl rfl (op_store rfl rfl tZ48i (by rfl) (by rfl) (by exact Nat.le_of_ble_eq_true rfl)) ?_
    rintro _ _ ⟨rfl, rfl⟩
    refine wl_nil ?_
    refine st_tn ?_
    refine w_ret ?_
    refine st_ret (vs := [_]) [95] Try.results28 ⟨⟨_, rfl, Ent.mono (Ent.lab (l := 4) rfl (says_cel 0)) (fun _ h => run_load_agg tA48i h (Nat.le_of_ble_eq_true rfl))⟩, trivial⟩ rfl ?_
    refine ⟨[(lab, _)], rfl, ?_⟩
    exact ⟨_, _, _, by rw [ho, show i = l.length by omega], rfl, rfl⟩

theorem sum_set {l : List Int} {v : Int} : ∀ {k : Nat}, k < l.length → (l.set k (l.getD k 0 + v)).sum = l.sum + v := by
  induction l with
  | nil => intro k h; simp at h
  | cons x l ih =>
    intro k h
    cases k with
    | zero => simp; omega
    | succ k =>
      have := ih (k := k) (by simpa using h)
      simp only [List.set_cons_succ, List.sum_cons, List.getD_cons_succ]
      omega
theorem coarse_sum {fr sz : Int} (hs : 0 < sz) {l : List Int} : ∀ i : Nat, i ≤ l.length → (coarseN false fr sz l i).sum = (l.take i).sum
  | 0, _ => by simp [coarseN]
  | i + 1, h => by
    have ih := coarse_sum (fr := fr) (l := l) hs i (by omega)
    have hc := coarse_cell (lat := false) (fr := fr) (sz := sz) hs (l := l) i
    obtain ⟨x, hx⟩ := getE (l := l) (i := i) (by omega)
    have hgd : l.getD i 0 = x := by rw [List.getD_eq_getElem?_getD, hx]; rfl
    have hst : coarseN false fr sz l (i + 1) = cstep false (coarseN false fr sz l i) ((fr + i) / sz - fr / sz).toNat (l.getD i 0) := rfl
    rw [take_snoc hx, List.sum_append, ← ih, hst, hgd]
    unfold cstep
    split
    · rw [List.sum_append]
    · simp only [Bool.false_eq_true, if_false]
      have hk : ((fr + i) / sz - fr / sz).toNat < (coarseN false fr sz l i).length := by omega
      rw [sum_set hk]; simp
/-- The sum of the last w of the first n values. -/
def wsum (l : List Int) (w n : Nat) : Int := ((l.take n).drop (n - w)).sum
theorem mov_wsum {l : List Int} {w : Nat} (hw : 1 ≤ w) : ∀ n : Nat, n ≤ l.length → movN l w n = wsum l w n
  | 0, _ => by simp [movN, wsum]
  | n + 1, h => by
    have ih := mov_wsum (l := l) hw n (by omega)
    obtain ⟨x, hx⟩ := getE (l := l) (i := n) (by omega)
    have hgd : l.getD n 0 = x := by rw [List.getD_eq_getElem?_getD, hx]; rfl
    unfold movN
    rw [ih, hgd]
    unfold wsum
    have hd : ∀ j, j ≤ n → (l.take (n + 1)).drop j = (l.take n).drop j ++ [x] := fun j hj => by
      rw [take_snoc hx, List.drop_append_of_le_length (by rw [List.length_take]; omega)]
    by_cases hnw : (n : Int) ≥ w
    · rw [if_pos hnw, show n + 1 - w = (n - w) + 1 by omega]
      obtain ⟨y, hy⟩ := getE (l := l) (i := n - w) (by omega)
      have hy2 : l.getD ((n : Int) - (w : Int)).toNat 0 = y := by rw [show ((n : Int) - (w : Int)).toNat = n - w by omega, List.getD_eq_getElem?_getD, hy]; rfl
      rw [hy2]
      have hy3 : (l.take (n + 1))[n - w]? = some y := by rw [List.getElem?_take, if_pos (by omega)]; exact hy
      have hs := congrArg List.sum (hd (n - w) (by omega))
      rw [List.sum_append] at hs
      have hc : (l.take (n + 1)).drop (n - w) = y :: (l.take (n + 1)).drop (n - w + 1) := by
        obtain ⟨h1, h2⟩ := List.getElem?_eq_some_iff.1 hy3
        rw [List.drop_eq_getElem_cons h1, h2]
      rw [hc, List.sum_cons] at hs
      simp at hs
      omega
    · rw [if_neg hnw, show n + 1 - w = 0 by omega, show n - w = 0 by omega, hd 0 (by omega), List.sum_append]; simp
theorem svc_ok (x : Int) : nameP (svcL.getD (x % 4).toNat .empty) := by
  have h : (x % 4).toNat < 4 := by omega
  generalize (x % 4).toNat = n at h
  rcases n with _ | _ | _ | _ | n
  all_goals first | omega | decide +kernel
theorem op_ok (x : Int) : opL.getD (x % 4).toNat .empty = ⟨#[]⟩ ∨ nameP (opL.getD (x % 4).toNat .empty) := by
  have h : (x % 4).toNat < 4 := by omega
  generalize (x % 4).toNat = n at h
  rcases n with _ | _ | _ | _ | n
  all_goals first | omega | decide +kernel
theorem q_ok (x : Int) : goodB (mkF (1 + x % 10) 10).1 (mkF (1 + x % 10) 10).2.1 := by
  have h : (x % 10).toNat < 10 := by omega
  rw [show x % 10 = ((x % 10).toNat : Int) by omega]
  generalize (x % 10).toNat = n at h
  rcases n with _ | _ | _ | _ | _ | _ | _ | _ | _ | _ | n
  all_goals first | omega | decide +kernel
/-- What is used of a drawn graph's kind. -/
structure GK (k : SK) : Prop where
  svc : k.svc.size ≤ maxLen
  op : k.op.size ≤ maxLen
  q1 : -9223372036854775808 ≤ k.qn ∧ k.qn ≤ 9223372036854775807
  q2 : -9223372036854775808 ≤ k.qd ∧ k.qd ≤ 9223372036854775807
  met : 1 ≤ k.met ∧ k.met ≤ 3
  n1 : nameP k.svc
  n2 : k.op = ⟨#[]⟩ ∨ nameP k.op
  q : (k.met = 3 → goodB k.qn k.qd) ∧ (k.met ≠ 3 → (k.qn, k.qd) = (0, 0))
theorem name_len {s : ByteArray} (h : nameP s) : s.size ≤ maxLen := by have := h.1.2; unfold maxLen; omega
theorem kG_ok (a b c d : Int) : GK (kG a b c d) := by
  have h1 := svc_ok a
  have h2 := op_ok b
  have h3 := q_ok d
  have h4 := goodB_bd h3
  have h5 : (opL.getD (b % 4).toNat .empty).size ≤ maxLen := by
    rcases h2 with h2 | h2
    · rw [h2]; decide
    · exact name_len h2
  unfold kG
  refine ⟨name_len h1, h5, ?_, ?_, ?_, h1, h2, ?_, ?_⟩
  · dsimp only; split <;> omega
  · dsimp only; split <;> omega
  · dsimp only; omega
  · intro h; dsimp only at h ⊢; rw [if_pos h, if_pos h]; exact h3
  · intro h; dsimp only at h ⊢; rw [if_neg h, if_neg h]
theorem chk_ok {k : SK} (h : GK k) {fr : Int} {l : List Int} (hl : l.length ≤ 1024) (hv : ∀ x ∈ l, 0 ≤ x ∧ x ≤ 1099511627776) : chkE k fr l = 0 ↔ 0 ≤ fr ∧ fr ≤ 1048576 ∧ fr + l.length ≤ 1048577 := by
  unfold chkE
  have hm := h.met
  rw [if_neg (fun h1 => by rcases h1 with h1 | ⟨h1, h2⟩; (· exact h1 h.n1); (· exact h.n2.elim h1 h2)), if_neg (by omega),
    if_neg (fun h1 => by rcases h1 with ⟨h1, h2⟩ | ⟨h1, h2⟩; (· exact h2 (h.q.1 h1)); (· exact h2 (h.q.2 h1)))]
  by_cases h1 : fr < 0 ∨ fr > 1048576
  · rw [if_pos h1]; constructor <;> intro h2 <;> omega
  · rw [if_neg h1, if_neg (by omega)]
    by_cases h2 : fr + l.length > 1048577
    · rw [if_pos h2]; constructor <;> intro h2 <;> omega
    · rw [if_neg h2, if_neg (fun h3 => by obtain ⟨x, hx, h4⟩ := List.any_eq_true.1 h3; have := hv x hx; have := of_decide_eq_true h4; omega)]
      constructor <;> intro h2 <;> omega
theorem shift_fit {k : SK} (h : GK k) {fr y : Int} {l : List Int} (hl : l.length ≤ 1024) (hv : ∀ x ∈ l, 0 ≤ x ∧ x ≤ 1099511627776) (hf : 0 ≤ fr ∧ fr ≤ 1048576) (hy : y ≥ 0 - fr ∧ y ≤ 1048576) (hc : chkE k (fr + y) l = 0) : shiftR k fr l y = ⟨k, fr + y, l, 0⟩ := by
  have := (chk_ok h hl hv).1 hc
  unfold shiftR; rw [if_neg (by omega)]
theorem shift_no1 {k : SK} {fr y : Int} {l : List Int} (hf : 0 ≤ fr ∧ fr ≤ 1048576) (hy : ¬ (y ≥ 0 - fr ∧ y ≤ 1048576)) : shiftR k fr l y = zeroR 32 := by unfold shiftR; rw [if_pos (by omega)]
theorem shift_no2 {k : SK} (h : GK k) {fr y : Int} {l : List Int} (hl : l.length ≤ 1024) (hv : ∀ x ∈ l, 0 ≤ x ∧ x ≤ 1099511627776) (hc : ¬ chkE k (fr + y) l = 0) : shiftR k fr l y = zeroR 32 := by
  have h1 := fun q => hc ((chk_ok h hl hv).2 q)
  unfold shiftR; rw [if_pos]
  apply Classical.byContradiction
  intro h2
  exact h1 ⟨by omega, by omega, by omega⟩
theorem coarsen_fit {k : SK} {fr sz : Int} {l : List Int} (hl : l.length ≤ 30) (hv : ∀ x ∈ l, 0 ≤ x ∧ x ≤ 255) (hs : ¬ (sz < 1 ∨ sz > 1048576)) : coarsenR k fr l sz = ⟨k, fr / sz, coarseN (decide (k.met = 3)) fr sz l l.length, 0⟩ := by
  unfold coarsenR
  rw [if_neg hs, if_neg]
  intro h
  obtain ⟨x, hx, h1⟩ := List.any_eq_true.1 h
  have := coarse_bd (lat := decide (k.met = 3)) (fr := fr) (sz := sz) (B := 255) (by omega) hv l.length x hx
  have := of_decide_eq_true h1
  omega
theorem coarse_bd255 {lat : Bool} {fr sz : Int} {l : List Int} (hl : l.length ≤ 30) (hv : ∀ x ∈ l, 0 ≤ x ∧ x ≤ 255) : ∀ x ∈ coarseN lat fr sz l l.length, 0 ≤ x ∧ x ≤ 1099511627776 := fun x hx => by
  have := coarse_bd (lat := lat) (fr := fr) (sz := sz) (B := 255) (by omega) hv l.length x hx
  omega
end Go.Proofs.Ytbgddblfalahfaa
