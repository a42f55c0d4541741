/- Contracts of the law's helpers rows and made, and of bitmap.Shift (layer 5). Conditions: none. -/
import Derived.Test.YtkknlfhncheflaaB17
import Derived.Test.YtkknlfhncheflaaSlC
namespace Go.Proofs.Ytkknlfhncheflaa
open Go Go.SL Go.RowKit Go.BitM
set_option linter.unusedVariables false
set_option linter.unusedSimpArgs false
theorem tA26t : aggB Try.prog 26 1 = true := by kernel_rfl
theorem tA43t : aggB Try.prog 43 2 = true := by kernel_rfl
theorem tF43_0t : fieldB Try.prog 43 0 0 = true := by kernel_rfl
theorem tF43_1t : fieldB Try.prog 43 1 1 = true := by kernel_rfl
theorem tL22_1t : zerosB Try.prog 22 3 1 1 = some [Value.int .i64 0] := by kernel_rfl
theorem tN26t : (Try.prog.info? 26).bind (·.zero) = some (Value.agg #[Value.slice none 0 0]) := by kernel_rfl
theorem tO40t : oneB Try.prog 40 = true := by kernel_rfl
theorem tO41t : oneB Try.prog 41 = true := by kernel_rfl
theorem tO5t : oneB Try.prog 5 = true := by kernel_rfl
theorem tP22t : appB Try.prog 22 3 1 8 = true := by kernel_rfl
theorem tR79t : arrB Try.prog 79 2 1 = true := by kernel_rfl
theorem tS41t : sliceB Try.prog 41 79 2 = true := by kernel_rfl
theorem tZ26t : (Try.prog.info? 26).map (·.size) = some 1 := by kernel_rfl

def encP8 (p : Int × Int) : List Value := [.int .u8 p.1, .int .u8 p.2]
def startOf (base : Int) : Int := if base % 2 = 1 then 1048406 else base % 300
def rowsFrom : Int → List (Int × Int) → List Int
  | _, [] => []
  | p, r :: l => upto (p + r.1 % 8) (p + r.1 % 8 + r.2 % 8 - 1) ++ rowsFrom (p + r.1 % 8 + r.2 % 8) l
def endFrom (p : Int) (l : List (Int × Int)) : Int := l.foldl (fun p r => p + r.1 % 8 + r.2 % 8) p
theorem endFrom_snoc (p : Int) (l : List (Int × Int)) (r : Int × Int) : endFrom p (l ++ [r]) = endFrom p l + r.1 % 8 + r.2 % 8 := by simp [endFrom]
theorem rowsFrom_snoc : ∀ (l : List (Int × Int)) (p : Int) (r : Int × Int), rowsFrom p (l ++ [r]) = rowsFrom p l ++ upto (endFrom p l + r.1 % 8) (endFrom p l + r.1 % 8 + r.2 % 8 - 1)
  | [], p, r => by simp [rowsFrom, endFrom]
  | q :: l, p, r => by
    rw [List.cons_append, rowsFrom, rowsFrom_snoc l, rowsFrom, List.append_assoc]; rfl
theorem endFrom_bd : ∀ (l : List (Int × Int)) (p : Int), p ≤ endFrom p l ∧ endFrom p l ≤ p + 14 * l.length
  | [], p => by simp [endFrom]
  | r :: l, p => by
    have h := endFrom_bd l (p + r.1 % 8 + r.2 % 8)
    show p ≤ endFrom (p + r.1 % 8 + r.2 % 8) l ∧ _
    have h1 : endFrom p (r :: l) = endFrom (p + r.1 % 8 + r.2 % 8) l := rfl
    rw [h1]; simp only [List.length_cons]; omega
theorem rowsFrom_ok : ∀ (l : List (Int × Int)) (p : Int), SS (rowsFrom p l) ∧ (∀ x ∈ rowsFrom p l, p ≤ x ∧ x < endFrom p l) ∧ (rowsFrom p l).length ≤ 7 * l.length
  | [], p => ⟨List.Pairwise.nil, by simp [rowsFrom], by simp [rowsFrom]⟩
  | r :: l, p => by
    obtain ⟨h1, h2, h3⟩ := rowsFrom_ok l (p + r.1 % 8 + r.2 % 8)
    have h4 := endFrom_bd l (p + r.1 % 8 + r.2 % 8)
    have h5 : endFrom p (r :: l) = endFrom (p + r.1 % 8 + r.2 % 8) l := rfl
    rw [h5]
    refine ⟨?_, fun x hx => ?_, ?_⟩
    · show SS (upto _ _ ++ _)
      unfold SS
      rw [List.pairwise_append]
      exact ⟨ss_upto _ _, h1, fun a ha b hb => by have := mem_upto.1 ha; have := h2 b hb; omega⟩
    · rcases List.mem_append.1 hx with hx | hx
      · have := mem_upto.1 hx; omega
      · have := h2 x hx; omega
    · show (upto _ _ ++ _).length ≤ _
      rw [List.length_append, length_upto]; simp only [List.length_cons]; omega
theorem startOf_bd {b : Int} (h : 0 ≤ b) : 0 ≤ startOf b ∧ startOf b ≤ 1048406 := by unfold startOf; split <;> omega
/-- The rows that a description stands for. -/
def rowsOf (base : Int) (l : List (Int × Int)) : List Int := rowsFrom (startOf base) (l.take 12)
theorem rowsOf_ok {base : Int} (hb : 0 ≤ base) (l : List (Int × Int)) : SS (rowsOf base l) ∧ (∀ x ∈ rowsOf base l, 0 ≤ x ∧ x ≤ 1048573) ∧ (rowsOf base l).length ≤ 84 := by
  obtain ⟨h1, h2, h3⟩ := rowsFrom_ok (l.take 12) (startOf base)
  have h4 := endFrom_bd (l.take 12) (startOf base)
  have h5 := startOf_bd hb
  have h6 : (l.take 12).length ≤ 12 := by rw [List.length_take]; omega
  exact ⟨h1, fun x hx => by have := h2 x hx; omega, by unfold rowsOf; omega⟩
set_option maxHeartbeats 1000000 in
set_option maxRecDepth 100000 in
theorem lrows_any {σ : World} {F : List Res} {a : Option Addr} {c : Nat} {rl : List (Int × Int)} (lab : Nat) {base : Int} (hb : 0 ≤ base ∧ base ≤ 65535) (h : Sl σ F encP8 2 (.slice a rl.length c) rl) (hr : ∀ r ∈ rl, (0 ≤ r.1 ∧ r.1 ≤ 255) ∧ 0 ≤ r.2 ∧ r.2 ≤ 255) :
    FnT Try.prog σ F 23 [.agg #[.int .u16 base, .slice a rl.length c]] [] (NewZ (rowsOf base rl) lab) := by
  refine fn_of 55 Try.func23 rfl Try.ntmps23 rfl ?_
  have hle := h.i64
  refine w_seq ?_
  refine w_region ?_
  refine wl_op [] rfl rfl rfl rfl (op_box (T := 43) (l := 1) rfl) ?_
  rintro _ _ ⟨b1, rfl, rfl⟩
  refine wl_det rfl rfl rfl (op_assign rfl) ?_
  refine wl_nil ?_
  refine st_tn ?_
  refine w_seq ?_
  refine w_region ?_
  refine wl_det rfl rfl rfl (op_assign rfl) ?_
  refine wl_nil ?_
  refine st_tn ?_
  refine w_seq ?_
  refine w_region ?_
  refine wl_det rfl rfl rfl (op_fieldAddr (off := 0) rfl tF43_0t) ?_
  refine wl_det rfl rfl rfl (op_load1 rfl tO40t (Ent.lab (l := 1) rfl (says_cel 0))) ?_
  refine wl_det rfl rfl rfl (op_remN rfl rfl (by omega) (by omega)) ?_
  refine wl_det rfl rfl rfl (op_convI64 rfl (by rw [Try.underlying40]; rfl) Try.underlying3 (by omega)) ?_
  refine wl_det rfl rfl rfl (op_assign rfl) ?_
  refine wl_nil ?_
  refine st_tn ?_
  refine w_seq ?_
  refine w_seq ?_
  refine w_region ?_
  refine wl_det rfl rfl rfl (op_fieldAddr (off := 0) rfl tF43_0t) ?_
  refine wl_det rfl rfl rfl (op_load1 rfl tO40t (Ent.lab (l := 1) rfl (says_cel 0))) ?_
  refine wl_det rfl rfl rfl (op_remN rfl rfl (by omega) (by omega)) ?_
  refine wl_det rfl rfl rfl (op_eql rfl rfl) ?_
  refine wl_nil ?_
  refine st_tn ?_
  refine w_cond_d rfl (fun hc14 => ?_) (fun hc14 => ?_)
  · -- c14.t
    have hst : startOf base = 1048406 := by unfold startOf; rw [if_pos hc14]
    refine w_region ?_
    refine wl_det rfl rfl rfl (op_assign rfl) ?_
    refine wl_nil ?_
    refine st_tn ?_
    refine w_seq ?_
    refine w_seq ?_
    refine w_region ?_
    refine wl_det rfl rfl rfl (op_assign rfl) ?_
    refine wl_nil ?_
    refine st_tn ?_
    refine w_block ?_
    refine w_emp 3 (slO_nil 3 1) ?_
    refine w_loopQ (X := Nat × List Int × Option Addr × Nat × Int) (fun z => (z.1 ≤ rl.length ∧ z.1 ≤ 12) ∧ z.2.1 = rowsFrom (startOf base) (rl.take z.1) ∧ z.2.2.2.2 = endFrom (startOf base) (rl.take z.1)) (fun z => [(5, .int .i64 (z.1)), (3, .slice (z.2.2.1) (z.2.1).length (z.2.2.2.1)), (4, .int .i64 (z.2.2.2.2))]) (fun z => [(3, slW 3 SL.encZ 1 (.slice (z.2.2.1) (z.2.1).length (z.2.2.2.1)) (z.2.1))]) (fun z => 12 - z.1) ((0, [], none, 0, _)) [(1, _)] [(1, _)] [3, 1] rfl (rfl) (.cons rfl (.cons rfl (.cons rfl (.nil _)))) (.cons rfl (.nil _)) (by
        try dsimp only
        exact ⟨⟨Nat.zero_le _, Nat.zero_le _⟩, rfl, hst.symm⟩) ?_
    rintro ⟨i, out, a_out, c_out, at1⟩ ⟨⟨hi, hi12⟩, hout, hat⟩
    refine w_norm2 (by dsimp only [List.cons_append, List.nil_append]) (by dsimp only [List.cons_append, List.nil_append]) ?_
    try dsimp only at hi hi12 hout hat ⊢
    refine w_seq ?_
    refine w_seq ?_
    have hbd := endFrom_bd (rl.take i) (startOf base)
    have hsb := startOf_bd hb.1
    have hok := (rowsFrom_ok (rl.take i) (startOf base)).2.2
    rw [List.length_take] at hbd hok
    refine w_cutL [(23, .bool (decide (i < rl.length ∧ i < 12)))] [1, 3, 4, 5] [3, 1] rfl (fun K' hK => ?_) ?_
    · -- cut r6
      refine w_region ?_
      refine wl_det rfl rfl rfl (op_move rfl) ?_
      refine wl_det rfl rfl rfl (op_fieldAddr (off := 1) rfl tF43_1t) ?_
      refine wl_det rfl rfl rfl (op_load1 rfl tO41t (Ent.lab (l := 1) rfl (says_cel 1))) ?_
      refine wl_det rfl rfl rfl (op_lenT rfl tS41t (Sl.ent (by first | exact Sl.app (by assumption) _ | exact Sl.app (Sl.app (by assumption) _) _))) ?_
      refine wl_det rfl rfl rfl (op_lss rfl rfl) ?_
      refine wl_det rfl rfl rfl (op_move rfl) ?_
      refine wl_gsplit (t := 20) rfl (fun hg20 => ?_) (fun hg20 => ?_)
      · -- 20 is True
        refine wl_wanted_det rfl rfl rfl rfl rfl rfl rfl (op_move rfl) ?_
        refine wl_wanted_det rfl rfl rfl rfl rfl rfl rfl (op_lss rfl rfl) ?_
        refine wl_det rfl rfl rfl (op_pick_t rfl rfl) ?_
        refine wl_nil ?_
        refine st_tn ?_
        exact cut_done1 [3, 1] hK rfl (by first | (rw [decide_eq_decide]; omega) | (symm; rw [decide_eq_false_iff_not]; omega) | (symm; rw [decide_eq_true_iff]; omega) | (simp; done) | (simp; omega) | (simp [*]; done) | (simp [*]; omega)) (by rfl) rfl rfl
      · -- 20 is False
        refine wl_unwanted rfl rfl rfl rfl rfl rfl rfl rfl ?_
        refine wl_unwanted rfl rfl rfl rfl rfl rfl rfl rfl ?_
        refine wl_det rfl rfl rfl (op_pick_f rfl rfl) ?_
        refine wl_nil ?_
        refine st_tn ?_
        exact cut_done1 [3, 1] hK rfl (by first | (rw [decide_eq_decide]; omega) | (symm; rw [decide_eq_false_iff_not]; omega) | (symm; rw [decide_eq_true_iff]; omega) | (simp; done) | (simp; omega) | (simp [*]; done) | (simp [*]; omega)) (by rfl) rfl rfl
    · -- behind r6
      show W _ _ _ _ _ [(23, _), (1, _), (3, _), (4, _), (5, _)] [(3, _), (1, _)] _
      refine w_cond_d rfl (fun hc23 => ?_) (fun hc23 => ?_)
      · -- c23.t
        obtain ⟨y, hy⟩ := getE (l := rl) (i := i) hc23.1
        have hlt := ltE hy
        have hyb := hr y (List.mem_of_getElem? hy)
        refine w_skip ?_
        refine st_tn ?_
        refine w_seq ?_
        refine w_block ?_
        refine w_seq ?_
        refine w_region ?_
        refine wl_det rfl rfl rfl (op_move rfl) ?_
        refine wl_det rfl rfl rfl (op_fieldAddr (off := 1) rfl tF43_1t) ?_
        refine wl_det rfl rfl rfl (op_load1 rfl tO41t (Ent.lab (l := 1) rfl (says_cel 1))) ?_
        refine wl_det rfl rfl rfl (op_move rfl) ?_
        refine wl_det rfl rfl rfl (op_idx rfl rfl tS41t (Sl.ent (by first | exact Sl.app (by assumption) _ | exact Sl.app (Sl.app (by assumption) _) _)) (by omega)) ?_
        refine wl_det rfl rfl rfl (op_idxArr (i := 0) rfl rfl tR79t (Nat.le_of_ble_eq_true rfl)) ?_
        refine wl_det rfl rfl rfl (op_ldxf rfl tO5t (by first | exact Sl.app (by assumption) _ | exact Sl.app (Sl.app (by assumption) _) _) (by assumption) (by rfl)) ?_
        refine wl_det rfl rfl rfl (op_remN rfl rfl (by omega) (by omega)) ?_
        refine wl_det rfl rfl rfl (op_convI64 rfl (by rw [Try.underlying5]; rfl) Try.underlying3 (by omega)) ?_
        refine wl_det rfl rfl rfl (op_add' rfl rfl (by omega)) ?_
        refine wl_det rfl rfl rfl (op_assign rfl) ?_
        refine wl_nil ?_
        refine st_tn ?_
        refine w_seq ?_
        refine w_region ?_
        refine wl_det rfl rfl rfl (op_assign rfl) ?_
        refine wl_nil ?_
        refine st_tn ?_
        refine w_block ?_
        refine w_loopQ (X := Nat × List Int × Option Addr × Nat × Int) (fun z => (z.1 : Int) ≤ y.2 % 8 ∧ z.2.2.2.2 = at1 + y.1 % 8 + z.1 ∧ z.2.1 = out ++ upto (at1 + y.1 % 8) (z.2.2.2.2 - 1)) (fun z => [(6, .int .i64 (z.1)), (3, .slice (z.2.2.1) (z.2.1).length (z.2.2.2.1)), (4, .int .i64 (z.2.2.2.2))]) (fun z => [(3, slW 3 SL.encZ 1 (.slice (z.2.2.1) (z.2.1).length (z.2.2.2.1)) (z.2.1))]) (fun z => (y.2 % 8).toNat - z.1) ((0, _, _, _, _)) [(1, _), (5, _)] [(1, _)] [3, 1] rfl (rfl) (.cons rfl (.cons rfl (.cons rfl (.nil _)))) (.cons rfl (.cons rfl (.nil _))) (by
            try dsimp only
            exact ⟨by omega, by omega, by rw [upto_empty (by omega), List.append_nil]⟩) ?_
        rintro ⟨k, out2, a_out2, c_out2, at2⟩ ⟨hk, ha2, ho2⟩
        refine w_norm2 (by dsimp only [List.cons_append, List.nil_append]) (by dsimp only [List.cons_append, List.nil_append]) ?_
        try dsimp only at hk ha2 ho2 ⊢
        refine w_seq ?_
        refine w_seq ?_
        refine w_region ?_
        refine wl_det rfl rfl rfl (op_move rfl) ?_
        refine wl_det rfl rfl rfl (op_fieldAddr (off := 1) rfl tF43_1t) ?_
        refine wl_det rfl rfl rfl (op_load1 rfl tO41t (Ent.lab (l := 1) rfl (says_cel 1))) ?_
        refine wl_det rfl rfl rfl (op_move rfl) ?_
        refine wl_det rfl rfl rfl (op_idx rfl rfl tS41t (Sl.ent (by first | exact Sl.app (by assumption) _ | exact Sl.app (Sl.app (by assumption) _) _)) (by omega)) ?_
        refine wl_det rfl rfl rfl (op_idxArr (i := 1) rfl rfl tR79t (Nat.le_of_ble_eq_true rfl)) ?_
        refine wl_det rfl rfl rfl (op_ldxf rfl tO5t (by first | exact Sl.app (by assumption) _ | exact Sl.app (Sl.app (by assumption) _) _) (by assumption) (by rfl)) ?_
        refine wl_det rfl rfl rfl (op_remN rfl rfl (by omega) (by omega)) ?_
        refine wl_det rfl rfl rfl (op_convI64 rfl (by rw [Try.underlying5]; rfl) Try.underlying3 (by omega)) ?_
        refine wl_det rfl rfl rfl (op_lss rfl rfl) ?_
        refine wl_nil ?_
        refine st_tn ?_
        refine w_cond_d rfl (fun hc45 => ?_) (fun hc45 => ?_)
        · -- c45.t
          have hlo2 : out2.length ≤ 100 := by rw [ho2, List.length_append, length_upto, hout]; omega
          refine w_skip ?_
          refine st_tn ?_
          refine w_seq ?_
          refine w_block ?_
          refine w_seq ?_
          refine w_region ?_
          refine wl_det rfl rfl rfl (op_move rfl) ?_
          refine wl_det rfl rfl rfl (op_move rfl) ?_
          refine wl_op [] rfl rfl rfl rfl (op_buildSlice (enc := SL.encZ) (l := [_]) (lab := 50) tL22_1t rfl rfl (fun _ => rfl) rfl) ?_
          rintro _ _ ⟨a50, c50, rfl, rfl⟩
          refine wl_op [3] rfl rfl rfl rfl (op_append (lab := 3) (lab' := 51) rfl rfl tP22t SL.enc1Z (Sl.lab 50 rfl (by simp [maxLen])) (by first | omega | (simp; done) | (simp; omega) | (simp [*]; omega)) (by first | omega | (simp; done) | (simp; omega) | (simp [*]; omega))) ?_
          rintro _ _ ⟨a51, c51, rfl, rfl⟩
          refine wl_det rfl rfl rfl (op_assign rfl) ?_
          refine wl_nil ?_
          refine st_tn ?_
          refine w_region ?_
          refine wl_det rfl rfl rfl (op_move rfl) ?_
          refine wl_det rfl rfl rfl (op_add' rfl rfl (by omega)) ?_
          refine wl_det rfl rfl rfl (op_assign rfl) ?_
          refine wl_nil ?_
          refine st_bn ?_
          refine st_tn ?_
          refine w_region ?_
          refine wl_det rfl rfl rfl (op_move rfl) ?_
          refine wl_det rfl rfl rfl (op_add' rfl rfl (by omega)) ?_
          refine wl_det rfl rfl rfl (op_assign rfl) ?_
          refine wl_nil ?_
          refine st_roundQ (x := (k, out2, a_out2, c_out2, at2)) ((k + 1, _, _, _, _)) [51, 1] rfl (rfl) (.cons rfl (.cons rfl (.cons rfl (.nil _)))) (.cons rfl (.cons rfl (.nil _))) (by
              try dsimp only
              refine ⟨by omega, by omega, ?_⟩
              rw [ho2, show at2 + 1 - 1 = at2 - 1 + 1 by omega, upto_snoc (by omega), List.append_assoc]
              congr 3; omega) (by
              try dsimp only
              omega) 
        · -- c45.f
          refine w_exit ?_
          refine st_te ?_
          refine st_te ?_
          refine st_be ?_
          refine st_bn ?_
          refine st_tn ?_
          refine w_region ?_
          refine wl_det rfl rfl rfl (op_move rfl) ?_
          refine wl_det rfl rfl rfl (op_add' rfl rfl (by omega)) ?_
          refine wl_det rfl rfl rfl (op_assign rfl) ?_
          refine wl_nil ?_
          refine st_roundQ (x := (i, out, a_out, c_out, at1)) ((i + 1, _, _, _, _)) [3, 1] rfl (rfl) (.cons rfl (.cons rfl (.cons rfl (.nil _)))) (.cons rfl (.nil _)) (by
              try dsimp only
              refine ⟨⟨by omega, by omega⟩, ?_, ?_⟩
              · rw [take_snoc hy, rowsFrom_snoc, ho2, hout, hat]; congr 2; omega
              · rw [take_snoc hy, endFrom_snoc, ha2, hat]; omega) (by
              try dsimp only
              omega) 
      · -- c23.f
        refine w_exit ?_
        refine st_te ?_
        refine st_te ?_
        refine st_be ?_
        refine st_tn ?_
        refine w_seq ?_
        refine w_region ?_
        refine wl_det rfl rfl rfl (op_move rfl) ?_
        refine wl_det rfl rfl rfl (op_assign rfl) ?_
        refine wl_nil ?_
        refine st_tn ?_
        refine w_ret ?_
        refine st_ret (vs := [_]) [3] Try.results23 ⟨rfl, trivial⟩ rfl ?_
        refine ⟨[(lab, _)], rfl, ?_⟩
        have hfin : rowsOf base rl = out := by
          rw [hout]; unfold rowsOf; congr 1
          rcases Nat.lt_or_ge i 12 with h12 | h12
          · rw [List.take_of_length_le (by omega), List.take_of_length_le (by omega)]
          · rw [show i = 12 by omega]
        rw [hfin]
        exact ⟨_, _, rfl, rfl⟩
  · -- c14.f
    have hst : startOf base = base % 300 := by unfold startOf; rw [if_neg hc14]
    refine w_skip ?_
    refine st_tn ?_
    refine w_seq ?_
    refine w_seq ?_
    refine w_region ?_
    refine wl_det rfl rfl rfl (op_assign rfl) ?_
    refine wl_nil ?_
    refine st_tn ?_
    refine w_block ?_
    refine w_emp 3 (slO_nil 3 1) ?_
    refine w_loopQ (X := Nat × List Int × Option Addr × Nat × Int) (fun z => (z.1 ≤ rl.length ∧ z.1 ≤ 12) ∧ z.2.1 = rowsFrom (startOf base) (rl.take z.1) ∧ z.2.2.2.2 = endFrom (startOf base) (rl.take z.1)) (fun z => [(5, .int .i64 (z.1)), (3, .slice (z.2.2.1) (z.2.1).length (z.2.2.2.1)), (4, .int .i64 (z.2.2.2.2))]) (fun z => [(3, slW 3 SL.encZ 1 (.slice (z.2.2.1) (z.2.1).length (z.2.2.2.1)) (z.2.1))]) (fun z => 12 - z.1) ((0, [], none, 0, _)) [(1, _)] [(1, _)] [3, 1] rfl (rfl) (.cons rfl (.cons rfl (.cons rfl (.nil _)))) (.cons rfl (.nil _)) (by
        try dsimp only
        exact ⟨⟨Nat.zero_le _, Nat.zero_le _⟩, rfl, hst.symm⟩) ?_
    rintro ⟨i, out, a_out, c_out, at1⟩ ⟨⟨hi, hi12⟩, hout, hat⟩
    refine w_norm2 (by dsimp only [List.cons_append, List.nil_append]) (by dsimp only [List.cons_append, List.nil_append]) ?_
    try dsimp only at hi hi12 hout hat ⊢
    refine w_seq ?_
    refine w_seq ?_
    have hbd := endFrom_bd (rl.take i) (startOf base)
    have hsb := startOf_bd hb.1
    have hok := (rowsFrom_ok (rl.take i) (startOf base)).2.2
    rw [List.length_take] at hbd hok
    refine w_cutL [(23, .bool (decide (i < rl.length ∧ i < 12)))] [1, 3, 4, 5] [3, 1] rfl (fun K' hK => ?_) ?_
    · -- cut r6
      refine w_region ?_
      refine wl_det rfl rfl rfl (op_move rfl) ?_
      refine wl_det rfl rfl rfl (op_fieldAddr (off := 1) rfl tF43_1t) ?_
      refine wl_det rfl rfl rfl (op_load1 rfl tO41t (Ent.lab (l := 1) rfl (says_cel 1))) ?_
      refine wl_det rfl rfl rfl (op_lenT rfl tS41t (Sl.ent (by first | exact Sl.app (by assumption) _ | exact Sl.app (Sl.app (by assumption) _) _))) ?_
      refine wl_det rfl rfl rfl (op_lss rfl rfl) ?_
      refine wl_det rfl rfl rfl (op_move rfl) ?_
      refine wl_gsplit (t := 20) rfl (fun hg20 => ?_) (fun hg20 => ?_)
      · -- 20 is True
        refine wl_wanted_det rfl rfl rfl rfl rfl rfl rfl (op_move rfl) ?_
        refine wl_wanted_det rfl rfl rfl rfl rfl rfl rfl (op_lss rfl rfl) ?_
        refine wl_det rfl rfl rfl (op_pick_t rfl rfl) ?_
        refine wl_nil ?_
        refine st_tn ?_
        exact cut_done1 [3, 1] hK rfl (by first | (rw [decide_eq_decide]; omega) | (symm; rw [decide_eq_false_iff_not]; omega) | (symm; rw [decide_eq_true_iff]; omega) | (simp; done) | (simp; omega) | (simp [*]; done) | (simp [*]; omega)) (by rfl) rfl rfl
      · -- 20 is False
        refine wl_unwanted rfl rfl rfl rfl rfl rfl rfl rfl ?_
        refine wl_unwanted rfl rfl rfl rfl rfl rfl rfl rfl ?_
        refine wl_det rfl rfl rfl (op_pick_f rfl rfl) ?_
        refine wl_nil ?_
        refine st_tn ?_
        exact cut_done1 [3, 1] hK rfl (by first | (rw [decide_eq_decide]; omega) | (symm; rw [decide_eq_false_iff_not]; omega) | (symm; rw [decide_eq_true_iff]; omega) | (simp; done) | (simp; omega) | (simp [*]; done) | (simp [*]; omega)) (by rfl) rfl rfl
    · -- behind r6
      show W _ _ _ _ _ [(23, _), (1, _), (3, _), (4, _), (5, _)] [(3, _), (1, _)] _
      refine w_cond_d rfl (fun hc23 => ?_) (fun hc23 => ?_)
      · -- c23.t
        obtain ⟨y, hy⟩ := getE (l := rl) (i := i) hc23.1
        have hlt := ltE hy
        have hyb := hr y (List.mem_of_getElem? hy)
        refine w_skip ?_
        refine st_tn ?_
        refine w_seq ?_
        refine w_block ?_
        refine w_seq ?_
        refine w_region ?_
        refine wl_det rfl rfl rfl (op_move rfl) ?_
        refine wl_det rfl rfl rfl (op_fieldAddr (off := 1) rfl tF43_1t) ?_
        refine wl_det rfl rfl rfl (op_load1 rfl tO41t (Ent.lab (l := 1) rfl (says_cel 1))) ?_
        refine wl_det rfl rfl rfl (op_move rfl) ?_
        refine wl_det rfl rfl rfl (op_idx rfl rfl tS41t (Sl.ent (by first | exact Sl.app (by assumption) _ | exact Sl.app (Sl.app (by assumption) _) _)) (by omega)) ?_
        refine wl_det rfl rfl rfl (op_idxArr (i := 0) rfl rfl tR79t (Nat.le_of_ble_eq_true rfl)) ?_
        refine wl_det rfl rfl rfl (op_ldxf rfl tO5t (by first | exact Sl.app (by assumption) _ | exact Sl.app (Sl.app (by assumption) _) _) (by assumption) (by rfl)) ?_
        refine wl_det rfl rfl rfl (op_remN rfl rfl (by omega) (by omega)) ?_
        refine wl_det rfl rfl rfl (op_convI64 rfl (by rw [Try.underlying5]; rfl) Try.underlying3 (by omega)) ?_
        refine wl_det rfl rfl rfl (op_add' rfl rfl (by omega)) ?_
        refine wl_det rfl rfl rfl (op_assign rfl) ?_
        refine wl_nil ?_
        refine st_tn ?_
        refine w_seq ?_
        refine w_region ?_
        refine wl_det rfl rfl rfl (op_assign rfl) ?_
        refine wl_nil ?_
        refine st_tn ?_
        refine w_block ?_
        refine w_loopQ (X := Nat × List Int × Option Addr × Nat × Int) (fun z => (z.1 : Int) ≤ y.2 % 8 ∧ z.2.2.2.2 = at1 + y.1 % 8 + z.1 ∧ z.2.1 = out ++ upto (at1 + y.1 % 8) (z.2.2.2.2 - 1)) (fun z => [(6, .int .i64 (z.1)), (3, .slice (z.2.2.1) (z.2.1).length (z.2.2.2.1)), (4, .int .i64 (z.2.2.2.2))]) (fun z => [(3, slW 3 SL.encZ 1 (.slice (z.2.2.1) (z.2.1).length (z.2.2.2.1)) (z.2.1))]) (fun z => (y.2 % 8).toNat - z.1) ((0, _, _, _, _)) [(1, _), (5, _)] [(1, _)] [3, 1] rfl (rfl) (.cons rfl (.cons rfl (.cons rfl (.nil _)))) (.cons rfl (.cons rfl (.nil _))) (by
            try dsimp only
            exact ⟨by omega, by omega, by rw [upto_empty (by omega), List.append_nil]⟩) ?_
        rintro ⟨k, out2, a_out2, c_out2, at2⟩ ⟨hk, ha2, ho2⟩
        refine w_norm2 (by dsimp only [List.cons_append, List.nil_append]) (by dsimp only [List.cons_append, List.nil_append]) ?_
        try dsimp only at hk ha2 ho2 ⊢
        refine w_seq ?_
        refine w_seq ?_
        refine w_region ?_
        refine wl_det rfl rfl rfl (op_move rfl) ?_
        refine wl_det rfl rfl rfl (op_fieldAddr (off := 1) rfl tF43_1t) ?_
        refine wl_det rfl rfl rfl (op_load1 rfl tO41t (Ent.lab (l := 1) rfl (says_cel 1))) ?_
        refine wl_det rfl rfl rfl (op_move rfl) ?_
        refine wl_det rfl rfl rfl (op_idx rfl rfl tS41t (Sl.ent (by first | exact Sl.app (by assumption) _ | exact Sl.app (Sl.app (by assumption) _) _)) (by omega)) ?_
        refine wl_det rfl rfl rfl (op_idxArr (i := 1) rfl rfl tR79t (Nat.le_of_ble_eq_true rfl)) ?_
        refine wl_det rfl rfl rfl (op_ldxf rfl tO5t (by first | exact Sl.app (by assumption) _ | exact Sl.app (Sl.app (by assumption) _) _) (by assumption) (by rfl)) ?_
        refine wl_det rfl rfl rfl (op_remN rfl rfl (by omega) (by omega)) ?_
        refine wl_det rfl rfl rfl (op_convI64 rfl (by rw [Try.underlying5]; rfl) Try.underlying3 (by omega)) ?_
        refine wl_det rfl rfl rfl (op_lss rfl rfl) ?_
        refine wl_nil ?_
        refine st_tn ?_
        refine w_cond_d rfl (fun hc45 => ?_) (fun hc45 => ?_)
        · -- c45.t
          have hlo2 : out2.length ≤ 100 := by rw [ho2, List.length_append, length_upto, hout]; omega
          refine w_skip ?_
          refine st_tn ?_
          refine w_seq ?_
          refine w_block ?_
          refine w_seq ?_
          refine w_region ?_
          refine wl_det rfl rfl rfl (op_move rfl) ?_
          refine wl_det rfl rfl rfl (op_move rfl) ?_
          refine wl_op [] rfl rfl rfl rfl (op_buildSlice (enc := SL.encZ) (l := [_]) (lab := 50) tL22_1t rfl rfl (fun _ => rfl) rfl) ?_
          rintro _ _ ⟨a50, c50, rfl, rfl⟩
          refine wl_op [3] rfl rfl rfl rfl (op_append (lab := 3) (lab' := 51) rfl rfl tP22t SL.enc1Z (Sl.lab 50 rfl (by simp [maxLen])) (by first | omega | (simp; done) | (simp; omega) | (simp [*]; omega)) (by first | omega | (simp; done) | (simp; omega) | (simp [*]; omega))) ?_
          rintro _ _ ⟨a51, c51, rfl, rfl⟩
          refine wl_det rfl rfl rfl (op_assign rfl) ?_
          refine wl_nil ?_
          refine st_tn ?_
          refine w_region ?_
          refine wl_det rfl rfl rfl (op_move rfl) ?_
          refine wl_det rfl rfl rfl (op_add' rfl rfl (by omega)) ?_
          refine wl_det rfl rfl rfl (op_assign rfl) ?_
          refine wl_nil ?_
          refine st_bn ?_
          refine st_tn ?_
          refine w_region ?_
          refine wl_det rfl rfl rfl (op_move rfl) ?_
          refine wl_det rfl rfl rfl (op_add' rfl rfl (by omega)) ?_
          refine wl_det rfl rfl rfl (op_assign rfl) ?_
          refine wl_nil ?_
          refine st_roundQ (x := (k, out2, a_out2, c_out2, at2)) ((k + 1, _, _, _, _)) [51, 1] rfl (rfl) (.cons rfl (.cons rfl (.cons rfl (.nil _)))) (.cons rfl (.cons rfl (.nil _))) (by
              try dsimp only
              refine ⟨by omega, by omega, ?_⟩
              rw [ho2, show at2 + 1 - 1 = at2 - 1 + 1 by omega, upto_snoc (by omega), List.append_assoc]
              congr 3; omega) (by
              try dsimp only
              omega) 
        · -- c45.f
          refine w_exit ?_
          refine st_te ?_
          refine st_te ?_
          refine st_be ?_
          refine st_bn ?_
          refine st_tn ?_
          refine w_region ?_
          refine wl_det rfl rfl rfl (op_move rfl) ?_
          refine wl_det rfl rfl rfl (op_add' rfl rfl (by omega)) ?_
          refine wl_det rfl rfl rfl (op_assign rfl) ?_
          refine wl_nil ?_
          refine st_roundQ (x := (i, out, a_out, c_out, at1)) ((i + 1, _, _, _, _)) [3, 1] rfl (rfl) (.cons rfl (.cons rfl (.cons rfl (.nil _)))) (.cons rfl (.nil _)) (by
              try dsimp only
              refine ⟨⟨by omega, by omega⟩, ?_, ?_⟩
              · rw [take_snoc hy, rowsFrom_snoc, ho2, hout, hat]; congr 2; omega
              · rw [take_snoc hy, endFrom_snoc, ha2, hat]; omega) (by
              try dsimp only
              omega) 
      · -- c23.f
        refine w_exit ?_
        refine st_te ?_
        refine st_te ?_
        refine st_be ?_
        refine st_tn ?_
        refine w_seq ?_
        refine w_region ?_
        refine wl_det rfl rfl rfl (op_move rfl) ?_
        refine wl_det rfl rfl rfl (op_assign rfl) ?_
        refine wl_nil ?_
        refine st_tn ?_
        refine w_ret ?_
        refine st_ret (vs := [_]) [3] Try.results23 ⟨rfl, trivial⟩ rfl ?_
        refine ⟨[(lab, _)], rfl, ?_⟩
        have hfin : rowsOf base rl = out := by
          rw [hout]; unfold rowsOf; congr 1
          rcases Nat.lt_or_ge i 12 with h12 | h12
          · rw [List.take_of_length_le (by omega), List.take_of_length_le (by omega)]
          · rw [show i = 12 by omega]
        rw [hfin]
        exact ⟨_, _, rfl, rfl⟩

/-- A set that a description stands for. -/
def MadeV (base : Int) (l : List (Int × Int)) (lab : Nat) (u : Value) (ρ : RL) : Prop := ∃ m a c, WF m ∧ inB 0 1048575 m ∧ rows m = rowsOf base l ∧ u = bm a m.length c ∧ ρ = [(lab, slW 58 encRun 2 (.slice a m.length c) m)]
set_option maxHeartbeats 400000 in
set_option maxRecDepth 100000 in
theorem made_any {σ : World} {F : List Res} {a : Option Addr} {c : Nat} {rl : List (Int × Int)} (lab : Nat) {base : Int} (hb : 0 ≤ base ∧ base ≤ 65535) (h : Sl σ F encP8 2 (.slice a rl.length c) rl) (hr : ∀ r ∈ rl, (0 ≤ r.1 ∧ r.1 ≤ 255) ∧ 0 ≤ r.2 ∧ r.2 ≤ 255) :
    FnT Try.prog σ F 22 [.agg #[.int .u16 base, .slice a rl.length c]] [] (MadeV base rl lab) := by
  refine fn_of 12 Try.func22 rfl Try.ntmps22 rfl ?_
  obtain ⟨hro1, hro2, hro3⟩ := rowsOf_ok hb.1 rl
  have hv : validB (rowsOf base rl) = true := by
    unfold validB; rw [List.all_eq_true]; intro x hx; have := hro2 x hx; simp; omega
  refine w_seq ?_
  refine w_region ?_
  refine wl_op [] rfl rfl rfl rfl (op_box (T := 43) (l := 1) rfl) ?_
  rintro _ _ ⟨b1, rfl, rfl⟩
  refine wl_op [] rfl rfl rfl rfl (op_alloc (l := 2) tN26t) ?_
  rintro _ _ ⟨b2, rfl, rfl⟩
  refine wl_nil ?_
  refine st_tn ?_
  refine w_seq ?_
  refine w_region ?_
  refine wl_det rfl rfl rfl (op_loadA rfl tA43t (Ent.lab (l := 1) rfl (says_cel 0)) (Nat.le_of_ble_eq_true rfl)) ?_
  refine wl_op [] rfl rfl rfl rfl (op_fn Try.func23 rfl rfl rfl (lrows_any 7 hb (Sl.app h _) hr)) ?_
  rintro _ _ ⟨a7, c7, rfl, rfl⟩
  refine wl_op [] rfl rfl rfl rfl (op_fn Try.func14 rfl rfl rfl (of_s 8 (Sl.lab 7 rfl (by unfold maxLen; omega)) (by omega))) ?_
  rintro _ _ ⟨m, am, cm, hw, hi, hm, rfl, rfl⟩
  refine wl_det rfl rfl rfl (op_move rfl) ?_
  refine wl_det rfl rfl rfl (op_extract rfl rfl) ?_
  refine wl_det rfl rfl rfl (op_extract rfl rfl) ?_
  refine wl_op [] rfl rfl rfl rfl (op_alloc (l := 3) tN26t) ?_
  rintro _ _ ⟨b3, rfl, rfl⟩
  refine wl_op0 [3] rfl rfl rfl (op_store rfl rfl tZ26t (by rfl) (by rfl) (by exact Nat.le_of_ble_eq_true rfl)) ?_
  rintro _ _ ⟨rfl, rfl⟩
  refine wl_det rfl rfl rfl (op_assign rfl) ?_
  refine wl_nil ?_
  refine st_tn ?_
  refine w_seq ?_
  refine w_region ?_
  refine wl_det rfl rfl rfl (op_loadA rfl tA26t (Ent.lab (l := 3) rfl (says_cel 0)) (Nat.le_of_ble_eq_true rfl)) ?_
  refine wl_op0 [2] rfl rfl rfl (op_store rfl rfl tZ26t (by rfl) (by rfl) (by exact Nat.le_of_ble_eq_true rfl)) ?_
  rintro _ _ ⟨rfl, rfl⟩
  refine wl_nil ?_
  refine st_tn ?_
  refine w_ret ?_
  refine st_ret (vs := [_]) [8] Try.results22 ⟨⟨_, rfl, Ent.mono (Ent.lab (l := 2) rfl (says_cel 0)) (fun _ h => run_load_agg tA26t h (Nat.le_of_ble_eq_true rfl))⟩, trivial⟩ rfl ?_
  refine ⟨[(lab, _)], rfl, ?_⟩
  have hrows : rows m = rowsOf base rl := SS.ext (ss_rows hw) hro1 fun x => by rw [mem_rows, hm]; simp [hv]
  exact ⟨m, _, _, hw, hi, hrows, rfl, rfl⟩

end Go.Proofs.Ytkknlfhncheflaa
