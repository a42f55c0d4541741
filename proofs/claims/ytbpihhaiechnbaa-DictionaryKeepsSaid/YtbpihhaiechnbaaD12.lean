/- Contracts: Keep, and the law DictionaryKeeps (layer 6). Conditions: none. -/
import Derived.Test.YtbpihhaiechnbaaD10
namespace Go.Proofs.Ytbpihhaiechnbaa
open Go Go.SL Go.RowKit Go.DicM
set_option linter.unusedVariables false
set_option linter.unusedSimpArgs false
theorem tL22_1l : zerosB Try.prog 22 9 1 1 = some [Value.string .empty] := by kernel_rfl
theorem tL31_1l : zerosB Try.prog 31 3 1 1 = some [Value.int .i64 0] := by kernel_rfl
theorem tN4l : (Try.prog.info? 4).bind (·.zero) = some (Value.bool false) := by kernel_rfl
theorem tO3l : oneB Try.prog 3 = true := by kernel_rfl
theorem tO9l : oneB Try.prog 9 = true := by kernel_rfl
theorem tP22l : appB Try.prog 22 9 1 16 = true := by kernel_rfl
theorem tP31l : appB Try.prog 31 3 1 8 = true := by kernel_rfl
theorem tQ66l : mapB Try.prog 66 3 4 KZ.desc := ⟨Try.underlying66, Try.underlying3⟩
theorem tS22l : sliceB Try.prog 22 9 1 = true := by kernel_rfl
theorem tS31l : sliceB Try.prog 31 3 1 = true := by kernel_rfl

/-- What Keep keeps of the first i strings, and the new codes. -/
def keepTo (d : List Bs) (us : List Int) : Nat → List Bs × List Int
  | 0 => ([], [])
  | i + 1 => if (i : Int) ∈ us then ((keepTo d us i).1 ++ [d.getD i []], (keepTo d us i).2 ++ [((keepTo d us i).1.length : Int)]) else ((keepTo d us i).1, (keepTo d us i).2 ++ [-1])
theorem keepTo_succ (d : List Bs) (us : List Int) (i : Nat) : keepTo d us (i + 1) = if (i : Int) ∈ us then ((keepTo d us i).1 ++ [d.getD i []], (keepTo d us i).2 ++ [((keepTo d us i).1.length : Int)]) else ((keepTo d us i).1, (keepTo d us i).2 ++ [-1]) := rfl
theorem keepTo_len (d : List Bs) (us : List Int) : ∀ i, (keepTo d us i).1.length ≤ i ∧ (keepTo d us i).2.length = i
  | 0 => ⟨Nat.le_refl _, rfl⟩
  | i + 1 => by
    have ih := keepTo_len d us i
    unfold keepTo
    split <;> simp <;> omega
def keepL (d : List Bs) (us : List Int) : List Bs := if strE d us = 0 then (keepTo d us d.length).1 else []
def keepF (d : List Bs) (us : List Int) : List Int := if strE d us = 0 then (keepTo d us d.length).2 else []
def NewK (l : List Bs) (f : List Int) (e : Int) (l1 l2 : Nat) (u : Value) (ρ : RL) : Prop := ∃ a c a' c', u = .tuple #[.slice a l.length c, .slice a' f.length c', .int .i64 e] ∧ ρ = [(l1, slW 9 encT 1 (.slice a l.length c) l), (l2, slW 3 encZ 1 (.slice a' f.length c') f)]
set_option maxHeartbeats 1000000 in
set_option maxRecDepth 100000 in
theorem keep_any {σ : World} {F : List Res} {a b : Option Addr} {c e : Nat} {d : List Bs} {us : List Int} (l1 l2 : Nat) (h : Sl σ F encT 1 (.slice a d.length c) d) (g : Sl σ F encZ 1 (.slice b us.length e) us) (hd : d.length ≤ 1048576) :
    FnT Try.prog σ F 37 [.slice a d.length c, .slice b us.length e] [] (NewK (keepL d us) (keepF d us) (strE d us) l1 l2) := by
  refine fn_of 56 Try.func37 rfl Try.ntmps37 rfl ?_
  have hle := h.i64
  have gle := g.i64
  refine w_seq ?_
  refine w_region ?_
  refine wl_det rfl rfl rfl (op_assign rfl) ?_
  refine wl_det rfl rfl rfl (op_assign rfl) ?_
  refine wl_det rfl rfl rfl (op_assign rfl) ?_
  refine wl_nil ?_
  refine st_tn ?_
  refine w_seq ?_
  refine w_region ?_
  refine wl_op [] rfl rfl rfl rfl (op_makeMap (kt := KZ) (encV := encVB) (lab := 12)) ?_
  rintro _ _ ⟨b12, rfl, rfl⟩
  refine wl_det rfl rfl rfl (op_assign rfl) ?_
  refine wl_nil ?_
  refine st_tn ?_
  refine w_seq ?_
  refine w_seq ?_
  refine w_region ?_
  refine wl_det rfl rfl rfl (op_move rfl) ?_
  refine wl_det rfl rfl rfl (op_lenT rfl tS31l (Sl.ent (by first | exact Sl.app (by assumption) _ | exact Sl.app (Sl.app (by assumption) _) _))) ?_
  refine wl_det rfl rfl rfl (op_move rfl) ?_
  refine wl_nil ?_
  refine st_tn ?_
  refine w_block ?_
  refine w_emp 4 (slO_nil 9 1) ?_
  refine w_emp 5 (slO_nil 3 1) ?_
  refine w_loopQ (X := Nat × List (Int × Bool) × List (List UInt8) × Option Addr × Nat × List Int × Option Addr × Nat) (fun z => z.1 ≤ us.length ∧ (∀ x ∈ us.take z.1, 0 ≤ x ∧ x < d.length) ∧ (∀ k, lookK KZ z.2.1 k = if k ∈ us.take z.1 then some true else none) ∧ z.2.2.1 = [] ∧ z.2.2.2.2.2.1 = []) (fun z => [(15, .int .i64 (z.1)), (4, .slice (z.2.2.2.1) (z.2.2.1).length (z.2.2.2.2.1)), (5, .slice (z.2.2.2.2.2.2.1) (z.2.2.2.2.2.1).length (z.2.2.2.2.2.2.2))]) (fun z => [(12, mp KZ encVB b12 (z.2.1)), (4, slW 9 encT 1 (.slice (z.2.2.2.1) (z.2.2.1).length (z.2.2.2.2.1)) (z.2.2.1)), (5, slW 3 encZ 1 (.slice (z.2.2.2.2.2.2.1) (z.2.2.2.2.2.1).length (z.2.2.2.2.2.2.2)) (z.2.2.2.2.2.1))]) (fun z => us.length - z.1) ((0, [], [], none, 0, [], none, 0)) [(0, _), (7, _), (13, _), (14, _)] [] [12, 4, 5] rfl (rfl) (.cons rfl (.cons rfl (.cons rfl (.nil _)))) (.cons rfl (.cons rfl (.cons rfl (.cons rfl (.nil _))))) (by
      try dsimp only
      exact ⟨Nat.zero_le _, by simp, fun k => by simp [lookK], rfl, rfl⟩) ?_
  rintro ⟨i, m, kp, a_kp, c_kp, fz, a_fz, c_fz⟩ ⟨hi, hn, hm, hkp, hfz⟩
  refine w_norm2 (by dsimp only [List.cons_append, List.nil_append]) (by dsimp only [List.cons_append, List.nil_append]) ?_
  try dsimp only at hi hn hm hkp hfz ⊢
  refine w_seq ?_
  refine w_region ?_
  refine wl_det rfl rfl rfl (op_lss rfl rfl) ?_
  refine wl_nil ?_
  refine st_tn ?_
  refine w_seq ?_
  refine w_cond_d rfl (fun hc16 => ?_) (fun hc16 => ?_)
  · -- c16.t
    obtain ⟨x, hx⟩ := getE (l := us) (i := i) (by omega)
    have hlt := ltE hx
    refine w_skip ?_
    refine st_tn ?_
    refine w_seq ?_
    refine w_block ?_
    refine w_seq ?_
    refine w_region ?_
    refine wl_det rfl rfl rfl (op_idx rfl rfl tS31l (Sl.ent (by first | exact Sl.app (by assumption) _ | exact Sl.app (Sl.app (by assumption) _) _)) (by omega)) ?_
    refine wl_det rfl rfl rfl (op_ldx rfl tO3l (by first | exact Sl.app (by assumption) _ | exact Sl.app (Sl.app (by assumption) _) _) (by assumption) (by rfl)) ?_
    refine wl_det rfl rfl rfl (op_assign rfl) ?_
    refine wl_nil ?_
    refine st_tn ?_
    refine w_seq ?_
    refine w_seq ?_
    refine w_region ?_
    refine wl_det rfl rfl rfl (op_move rfl) ?_
    refine wl_det rfl rfl rfl (op_lss rfl rfl) ?_
    refine wl_det rfl rfl rfl (op_move rfl) ?_
    refine wl_gsplit (t := 21) rfl (fun hg21 => ?_) (fun hg21 => ?_)
    · -- 21 is True
      refine wl_unwanted rfl rfl rfl rfl rfl rfl rfl rfl ?_
      refine wl_unwanted rfl rfl rfl rfl rfl rfl rfl rfl ?_
      refine wl_unwanted rfl rfl rfl rfl rfl rfl rfl rfl ?_
      refine wl_unwanted rfl rfl rfl rfl rfl rfl rfl rfl ?_
      refine wl_det rfl rfl rfl (op_pick_t rfl rfl) ?_
      refine wl_nil ?_
      refine st_tn ?_
      refine w_cond_t (rfl) ?_
      refine w_seq ?_
      refine w_emp 71 (slO_nil 9 1) ?_
      refine w_emp 72 (slO_nil 3 1) ?_
      refine w_region ?_
      refine wl_det rfl rfl rfl (op_assign rfl) ?_
      refine wl_det rfl rfl rfl (op_assign rfl) ?_
      refine wl_det rfl rfl rfl (op_assign rfl) ?_
      refine wl_nil ?_
      refine st_tn ?_
      refine w_ret ?_
      refine st_tr ?_
      refine st_br ?_
      refine st_tr ?_
      refine st_tr ?_
      refine st_br ?_
      refine st_tr ?_
      refine st_ret (vs := [_, _, _]) [71, 72] Try.results37 ⟨rfl, ⟨rfl, ⟨rfl, trivial⟩⟩⟩ rfl ?_
      refine ⟨[(l1, _), (l2, _)], rfl, ?_⟩
      obtain ⟨h1, _⟩ := str_no (d := d) hx (by omega)
      have h2 : keepL d us = [] := by unfold keepL; rw [h1]; rfl
      have h3 : keepF d us = [] := by unfold keepF; rw [h1]; rfl
      exact ⟨none, 0, none, 0, by rw [h1, h2, h3]; rfl, by rw [h2, h3]; rfl⟩
    · -- 21 is False
      refine wl_wanted_det rfl rfl rfl rfl rfl rfl rfl (op_move rfl) ?_
      refine wl_wanted_det rfl rfl rfl rfl rfl rfl rfl (op_move rfl) ?_
      refine wl_wanted_det rfl rfl rfl rfl rfl rfl rfl (op_lenT rfl tS22l (Sl.ent (by first | exact Sl.app (by assumption) _ | exact Sl.app (Sl.app (by assumption) _) _))) ?_
      refine wl_wanted_det rfl rfl rfl rfl rfl rfl rfl (op_geq rfl rfl) ?_
      refine wl_det rfl rfl rfl (op_pick_f rfl rfl) ?_
      refine wl_nil ?_
      refine st_tn ?_
      refine w_cond_d rfl (fun hc26 => ?_) (fun hc26 => ?_)
      · -- c26.t
        refine w_seq ?_
        refine w_emp 71 (slO_nil 9 1) ?_
        refine w_emp 72 (slO_nil 3 1) ?_
        refine w_region ?_
        refine wl_det rfl rfl rfl (op_assign rfl) ?_
        refine wl_det rfl rfl rfl (op_assign rfl) ?_
        refine wl_det rfl rfl rfl (op_assign rfl) ?_
        refine wl_nil ?_
        refine st_tn ?_
        refine w_ret ?_
        refine st_tr ?_
        refine st_br ?_
        refine st_tr ?_
        refine st_tr ?_
        refine st_br ?_
        refine st_tr ?_
        refine st_ret (vs := [_, _, _]) [71, 72] Try.results37 ⟨rfl, ⟨rfl, ⟨rfl, trivial⟩⟩⟩ rfl ?_
        refine ⟨[(l1, _), (l2, _)], rfl, ?_⟩
        obtain ⟨h1, _⟩ := str_no (d := d) hx (by omega)
        have h2 : keepL d us = [] := by unfold keepL; rw [h1]; rfl
        have h3 : keepF d us = [] := by unfold keepF; rw [h1]; rfl
        exact ⟨none, 0, none, 0, by rw [h1, h2, h3]; rfl, by rw [h2, h3]; rfl⟩
      · -- c26.f
        refine w_skip ?_
        refine st_tn ?_
        refine w_region ?_
        refine wl_det rfl rfl rfl (op_move rfl) ?_
        refine wl_det rfl rfl rfl (op_move rfl) ?_
        refine wl_op0 [12] rfl rfl rfl (op_mapUpdate (kt := KZ) (encV := encVB) (lab := 12) rfl rfl rfl tQ66l) ?_
        rintro _ _ ⟨rfl, rfl⟩
        refine wl_nil ?_
        refine st_bn ?_
        refine st_tn ?_
        refine w_region ?_
        refine wl_det rfl rfl rfl (op_add' rfl rfl (by omega)) ?_
        refine wl_det rfl rfl rfl (op_move rfl) ?_
        refine wl_nil ?_
        refine st_roundQ (x := (i, m, kp, a_kp, c_kp, fz, a_fz, c_fz)) ((i + 1, _, _, _, _, _, _, _)) [12, 4, 5] rfl (rfl) (.cons rfl (.cons rfl (.cons rfl (.nil _)))) (.cons rfl (.cons rfl (.cons rfl (.cons rfl (.nil _))))) (by
            try dsimp only
            refine ⟨by omega, all_snoc hn hx (by omega), fun k => ?_, hkp, hfz⟩
            rw [look_set, hm, take_snoc hx]
            have hk : KZ.eq k x = decide (k = x) := rfl
            rw [hk]
            by_cases h1 : k = x
            · subst h1; simp
            · simp [h1]) (by
            try dsimp only
            omega) 
  · -- c16.f
    refine w_exit ?_
    refine st_te ?_
    refine st_te ?_
    refine st_be ?_
    refine st_tn ?_
    refine w_seq ?_
    refine w_seq ?_
    rw [take_all (by omega)] at hn hm
    subst hkp; subst hfz
    refine w_region ?_
    refine wl_det rfl rfl rfl (op_move rfl) ?_
    refine wl_det rfl rfl rfl (op_lenT rfl tS22l (Sl.ent (by first | exact Sl.app (by assumption) _ | exact Sl.app (Sl.app (by assumption) _) _))) ?_
    refine wl_det rfl rfl rfl (op_move rfl) ?_
    refine wl_nil ?_
    refine st_tn ?_
    refine w_block ?_
    refine w_loopQ (X := List (List UInt8) × Option Addr × Nat × List Int × Option Addr × Nat × Nat) (fun z => z.2.2.2.2.2.2 ≤ d.length ∧ z.1 = (keepTo d us z.2.2.2.2.2.2).1 ∧ z.2.2.2.1 = (keepTo d us z.2.2.2.2.2.2).2) (fun z => [(4, .slice (z.2.1) (z.1).length (z.2.2.1)), (5, .slice (z.2.2.2.2.1) (z.2.2.2.1).length (z.2.2.2.2.2.1)), (32, .int .i64 (z.2.2.2.2.2.2))]) (fun z => [(4, slW 9 encT 1 (.slice (z.2.1) (z.1).length (z.2.2.1)) (z.1)), (5, slW 3 encZ 1 (.slice (z.2.2.2.2.1) (z.2.2.2.1).length (z.2.2.2.2.2.1)) (z.2.2.2.1))]) (fun z => d.length - z.2.2.2.2.2.2) ((_, _, _, _, _, _, 0)) [(7, _), (30, _), (31, _)] [(12, _)] [4, 5, 12] rfl (rfl) (.cons rfl (.cons rfl (.cons rfl (.nil _)))) (.cons rfl (.cons rfl (.cons rfl (.nil _)))) (by
        try dsimp only
        exact ⟨Nat.zero_le _, rfl, rfl⟩) ?_
    rintro ⟨out, a_out, c_out, fr, a_fr, c_fr, i⟩ ⟨hi, ho, hf⟩
    refine w_norm2 (by dsimp only [List.cons_append, List.nil_append]) (by dsimp only [List.cons_append, List.nil_append]) ?_
    try dsimp only at hi ho hf ⊢
    refine w_seq ?_
    refine w_region ?_
    refine wl_det rfl rfl rfl (op_lss rfl rfl) ?_
    refine wl_nil ?_
    refine st_tn ?_
    refine w_seq ?_
    refine w_cond_d rfl (fun hc33 => ?_) (fun hc33 => ?_)
    · -- c33.t
      obtain ⟨y, hy⟩ := getE (l := d) (i := i) (by omega)
      have hlt := ltE hy
      obtain ⟨k1, k2⟩ := keepTo_len d us i
      rw [← ho] at k1
      rw [← hf] at k2
      refine w_skip ?_
      refine st_tn ?_
      refine w_seq ?_
      refine w_block ?_
      refine w_seq ?_
      refine w_region ?_
      refine wl_det rfl rfl rfl (op_move rfl) ?_
      refine wl_det rfl rfl rfl (op_idx rfl rfl tS22l (Sl.ent (by first | exact Sl.app (by assumption) _ | exact Sl.app (Sl.app (by assumption) _) _)) (by omega)) ?_
      refine wl_det rfl rfl rfl (op_ldx rfl tO9l (by first | exact Sl.app (by assumption) _ | exact Sl.app (Sl.app (by assumption) _) _) (by assumption) (by rfl)) ?_
      refine wl_det rfl rfl rfl (op_assign rfl) ?_
      refine wl_det rfl rfl rfl (op_assign rfl) ?_
      refine wl_nil ?_
      refine st_tn ?_
      refine w_seq ?_
      refine w_seq ?_
      refine w_region ?_
      refine wl_det rfl rfl rfl (op_move rfl) ?_
      refine wl_det rfl rfl rfl (op_move rfl) ?_
      refine wl_det rfl rfl rfl (op_val (v' := .bool (decide ((i : Int) ∈ us))) (by rw [hm]; by_cases h : (i : Int) ∈ us; (· rw [if_pos h, decide_eq_true h]; rfl); (· rw [if_neg h, decide_eq_false h]; rfl)) (op_lookup (kt := KZ) (encV := encVB) rfl rfl tQ66l tN4l (Mr.lab 12 rfl))) ?_
      refine wl_det rfl rfl rfl (op_not_d rfl) ?_
      refine wl_nil ?_
      refine st_tn ?_
      refine w_cond_d rfl (fun hc40 => ?_) (fun hc40 => ?_)
      · -- c40.t
        refine w_seq ?_
        refine w_region ?_
        refine wl_det rfl rfl rfl (op_move rfl) ?_
        refine wl_op [] rfl rfl rfl rfl (op_buildSlice (enc := encZ) (l := [_]) (lab := 42) tL31_1l rfl rfl (fun _ => rfl) rfl) ?_
        rintro _ _ ⟨a42, c42, rfl, rfl⟩
        refine wl_op [5] rfl rfl rfl rfl (op_append (lab := 5) (lab' := 43) rfl rfl tP31l enc1Z (Sl.lab 42 rfl (by simp [maxLen])) (by simp; omega) (by simp; omega)) ?_
        rintro _ _ ⟨a43, c43, rfl, rfl⟩
        refine wl_det rfl rfl rfl (op_assign rfl) ?_
        refine wl_nil ?_
        refine st_tn ?_
        refine w_exit ?_
        refine st_te ?_
        refine st_be ?_
        refine st_tn ?_
        refine w_region ?_
        refine wl_det rfl rfl rfl (op_add' rfl rfl (by omega)) ?_
        refine wl_det rfl rfl rfl (op_move rfl) ?_
        refine wl_nil ?_
        refine st_roundQ (x := (out, a_out, c_out, fr, a_fr, c_fr, i)) ((_, _, _, _, _, _, i + 1)) [4, 43, 12] rfl (rfl) (.cons rfl (.cons rfl (.cons rfl (.nil _)))) (.cons rfl (.cons rfl (.cons rfl (.nil _)))) (by
            try dsimp only
            exact ⟨by omega, by unfold keepTo; rw [if_neg hc40, ← ho], by unfold keepTo; rw [if_neg hc40, ← hf]⟩) (by
            try dsimp only
            omega) 
      · -- c40.f
        refine w_skip ?_
        refine st_tn ?_
        refine w_seq ?_
        refine w_region ?_
        refine wl_det rfl rfl rfl (op_move rfl) ?_
        refine wl_det rfl rfl rfl (op_move rfl) ?_
        refine wl_det rfl rfl rfl (op_lenT rfl tS22l (Sl.ent (Sl.lab 4 rfl (by unfold maxLen; omega)))) ?_
        refine wl_op [] rfl rfl rfl rfl (op_buildSlice (enc := encZ) (l := [_]) (lab := 47) tL31_1l rfl rfl (fun _ => rfl) rfl) ?_
        rintro _ _ ⟨a47, c47, rfl, rfl⟩
        refine wl_op [5] rfl rfl rfl rfl (op_append (lab := 5) (lab' := 48) rfl rfl tP31l enc1Z (Sl.lab 47 rfl (by simp [maxLen])) (by simp; omega) (by simp; omega)) ?_
        rintro _ _ ⟨a48, c48, rfl, rfl⟩
        refine wl_det rfl rfl rfl (op_assign rfl) ?_
        refine wl_nil ?_
        refine st_tn ?_
        refine w_region ?_
        refine wl_det rfl rfl rfl (op_move rfl) ?_
        refine wl_det rfl rfl rfl (op_move rfl) ?_
        refine wl_op [] rfl rfl rfl rfl (op_buildSlice (enc := encT) (l := [_]) (lab := 51) tL22_1l rfl rfl (fun _ => rfl) rfl) ?_
        rintro _ _ ⟨a51, c51, rfl, rfl⟩
        refine wl_op [4] rfl rfl rfl rfl (op_append (lab := 4) (lab' := 52) rfl rfl tP22l enc1T (Sl.lab 51 rfl (by simp [maxLen])) (by simp; omega) (by simp; omega)) ?_
        rintro _ _ ⟨a52, c52, rfl, rfl⟩
        refine wl_det rfl rfl rfl (op_assign rfl) ?_
        refine wl_nil ?_
        refine st_bn ?_
        refine st_tn ?_
        refine w_region ?_
        refine wl_det rfl rfl rfl (op_add' rfl rfl (by omega)) ?_
        refine wl_det rfl rfl rfl (op_move rfl) ?_
        refine wl_nil ?_
        refine st_roundQ (x := (out, a_out, c_out, fr, a_fr, c_fr, i)) ((_, _, _, _, _, _, i + 1)) [52, 48, 12] rfl (rfl) (.cons rfl (.cons rfl (.cons rfl (.nil _)))) (.cons rfl (.cons rfl (.cons rfl (.nil _)))) (by
            try dsimp only
            exact ⟨by omega, by unfold keepTo; rw [if_pos (Classical.not_not.1 hc40), getD_of hy, ← ho], by unfold keepTo; rw [if_pos (Classical.not_not.1 hc40), ← ho, ← hf]⟩) (by
            try dsimp only
            omega) 
    · -- c33.f
      refine w_exit ?_
      refine st_te ?_
      refine st_te ?_
      refine st_be ?_
      refine st_tn ?_
      refine w_seq ?_
      have hil : i = d.length := by omega
      subst hil
      refine w_region ?_
      refine wl_det rfl rfl rfl (op_move rfl) ?_
      refine wl_det rfl rfl rfl (op_move rfl) ?_
      refine wl_det rfl rfl rfl (op_assign rfl) ?_
      refine wl_det rfl rfl rfl (op_assign rfl) ?_
      refine wl_det rfl rfl rfl (op_assign rfl) ?_
      refine wl_nil ?_
      refine st_tn ?_
      refine w_ret ?_
      refine st_ret (vs := [_, _, _]) [4, 5] Try.results37 ⟨rfl, ⟨rfl, ⟨rfl, trivial⟩⟩⟩ rfl ?_
      refine ⟨[(l1, _), (l2, _)], rfl, ?_⟩
      obtain ⟨h1, _⟩ := str_ok hn
      have h2 : keepL d us = out := by unfold keepL; rw [h1, if_pos rfl, ho]
      have h3 : keepF d us = fr := by unfold keepF; rw [h1, if_pos rfl, hf]
      rw [h1, h2, h3]; exact ⟨_, _, _, _, rfl, rfl⟩

set_option maxHeartbeats 1000000 in
set_option maxRecDepth 100000 in
theorem rkeep_any {σ : World} {F : List Res} {a b : Option Addr} {c e : Nat} {d : List Bs} {us : List Int} (lab : Nat) (h : Sl σ F encT 1 (.slice a d.length c) d) (g : Sl σ F encZ 1 (.slice b us.length e) us) (hu : us.length ≤ 1048575) (hs : strE d us = 0 → bldE (strL d us) = 0) :
    FnT Try.prog σ F 38 [.slice a d.length c, .slice b us.length e] [] (NewE (if strE d us = 0 then bldL (strL d us) else []) (strE d us) lab) := by
  refine fn_of 21 Try.func38 rfl Try.ntmps38 rfl ?_
  have hsl := strL_len d us
  refine w_seq ?_
  refine w_region ?_
  refine wl_det rfl rfl rfl (op_assign rfl) ?_
  refine wl_det rfl rfl rfl (op_assign rfl) ?_
  refine wl_nil ?_
  refine st_tn ?_
  refine w_seq ?_
  refine w_region ?_
  refine wl_det rfl rfl rfl (op_move rfl) ?_
  refine wl_det rfl rfl rfl (op_move rfl) ?_
  refine wl_op [] rfl rfl rfl rfl (op_fn Try.func34 rfl rfl rfl (rstrings_any 11 (by first | exact Sl.app (by assumption) _ | exact Sl.app (Sl.app (by assumption) _) _) (by first | exact Sl.app (by assumption) _ | exact Sl.app (Sl.app (by assumption) _) _) (by omega))) ?_
  rintro _ _ ⟨a11, c11, rfl, rfl⟩
  refine wl_det rfl rfl rfl (op_move rfl) ?_
  refine wl_det rfl rfl rfl (op_extract rfl rfl) ?_
  refine wl_det rfl rfl rfl (op_extract rfl rfl) ?_
  refine wl_det rfl rfl rfl (op_assign rfl) ?_
  refine wl_det rfl rfl rfl (op_assign rfl) ?_
  refine wl_nil ?_
  refine st_tn ?_
  refine w_seq ?_
  refine w_seq ?_
  refine w_region ?_
  refine wl_det rfl rfl rfl (op_move rfl) ?_
  refine wl_det rfl rfl rfl (op_neq rfl rfl) ?_
  refine wl_nil ?_
  refine st_tn ?_
  refine w_cond_d rfl (fun hc15 => ?_) (fun hc15 => ?_)
  · -- c15.t
    refine w_seq ?_
    refine w_emp 71 (slO_nil 9 1) ?_
    refine w_region ?_
    refine wl_det rfl rfl rfl (op_move rfl) ?_
    refine wl_det rfl rfl rfl (op_assign rfl) ?_
    refine wl_det rfl rfl rfl (op_assign rfl) ?_
    refine wl_nil ?_
    refine st_tn ?_
    refine w_ret ?_
    refine st_tr ?_
    refine st_ret (vs := [_, _]) [71] Try.results38 ⟨rfl, ⟨rfl, trivial⟩⟩ rfl ?_
    refine ⟨[(lab, _)], rfl, ?_⟩
    rw [if_neg hc15]; exact ⟨none, 0, rfl, rfl⟩
  · -- c15.f
    refine w_skip ?_
    refine st_tn ?_
    refine w_seq ?_
    refine w_region ?_
    refine wl_det rfl rfl rfl (op_move rfl) ?_
    refine wl_op [] rfl rfl rfl rfl (op_fn Try.func16 rfl rfl rfl (rbuild_any 18 (Sl.lab 11 rfl (by unfold maxLen; omega)) (by omega))) ?_
    rintro _ _ ⟨a18, c18, rfl, rfl⟩
    refine wl_det rfl rfl rfl (op_extract rfl rfl) ?_
    refine wl_det rfl rfl rfl (op_extract rfl rfl) ?_
    refine wl_det rfl rfl rfl (op_assign rfl) ?_
    refine wl_det rfl rfl rfl (op_assign rfl) ?_
    refine wl_nil ?_
    refine st_tn ?_
    refine w_ret ?_
    refine st_ret (vs := [_, _]) [18] Try.results38 ⟨rfl, ⟨rfl, trivial⟩⟩ rfl ?_
    refine ⟨[(lab, _)], rfl, ?_⟩
    have h0 : strE d us = 0 := Classical.not_not.1 hc15
    rw [if_pos h0, h0]; rw [hs h0]; exact ⟨_, _, rfl, rfl⟩

theorem keepTo_mem (d : List Bs) (us : List Int) (s : Bs) : ∀ i, i ≤ d.length → (s ∈ (keepTo d us i).1 ↔ ∃ j, j < i ∧ (j : Int) ∈ us ∧ d[j]? = some s)
  | 0, _ => by simp [keepTo]
  | i + 1, h => by
    have ih := keepTo_mem d us s i (by omega)
    have hx : d[i]? = some d[i] := List.getElem?_eq_getElem (by omega)
    unfold keepTo
    split
    · rename_i hi
      simp only [List.mem_append, ih, List.mem_singleton, getD_of hx]
      constructor
      · rintro (⟨j, h1, h2, h3⟩ | rfl)
        · exact ⟨j, by omega, h2, h3⟩
        · exact ⟨i, by omega, hi, hx⟩
      · rintro ⟨j, h1, h2, h3⟩
        rcases Nat.lt_or_eq_of_le (Nat.le_of_lt_succ h1) with h4 | h4
        · exact .inl ⟨j, h4, h2, h3⟩
        · subst h4; rw [hx] at h3; simp at h3; exact .inr h3.symm
    · rename_i hi
      simp only [ih]
      constructor
      · rintro ⟨j, h1, h2, h3⟩; exact ⟨j, by omega, h2, h3⟩
      · rintro ⟨j, h1, h2, h3⟩
        rcases Nat.lt_or_eq_of_le (Nat.le_of_lt_succ h1) with h4 | h4
        · exact ⟨j, h4, h2, h3⟩
        · subst h4; exact absurd h2 hi
theorem keepTo_inc {d : List Bs} (hd : Inc d) (us : List Int) : ∀ i, i ≤ d.length → Inc (keepTo d us i).1
  | 0, _ => List.Pairwise.nil
  | i + 1, h => by
    have ih := keepTo_inc hd us i (by omega)
    have hx : d[i]? = some d[i] := List.getElem?_eq_getElem (by omega)
    unfold keepTo
    split
    · refine ih.snoc fun y hy => ?_
      obtain ⟨j, h1, _, h3⟩ := (keepTo_mem d us y i (by omega)).1 hy
      rw [getD_of hx]; exact hd.get h3 hx h1
    · exact ih
theorem keepTo_pre (d : List Bs) (us : List Int) : ∀ {i m}, i ≤ m → (keepTo d us i).1 <+: (keepTo d us m).1 ∧ (keepTo d us i).2 <+: (keepTo d us m).2
  | i, 0, h => by obtain rfl : i = 0 := by omega
                  exact ⟨List.prefix_refl _, List.prefix_refl _⟩
  | i, m + 1, h => by
    rcases Nat.lt_or_eq_of_le h with h | h
    · obtain ⟨h1, h2⟩ := keepTo_pre d us (i := i) (m := m) (by omega)
      rw [show keepTo d us (m + 1) = if (m : Int) ∈ us then ((keepTo d us m).1 ++ [d.getD m []], (keepTo d us m).2 ++ [((keepTo d us m).1.length : Int)]) else ((keepTo d us m).1, (keepTo d us m).2 ++ [-1]) from rfl]
      split
      · exact ⟨h1.trans (List.prefix_append _ _), h2.trans (List.prefix_append _ _)⟩
      · exact ⟨h1, h2.trans (List.prefix_append _ _)⟩
    · subst h; exact ⟨List.prefix_refl _, List.prefix_refl _⟩
theorem prefix_get {α : Type} {l m : List α} {i : Nat} {x : α} (h : l <+: m) (hx : l[i]? = some x) : m[i]? = some x := by
  obtain ⟨t, rfl⟩ := h
  rw [List.getElem?_append_left (List.getElem?_eq_some_iff.1 hx).1]; exact hx
theorem keep_at {d : List Bs} {us : List Int} {i : Nat} {x : Bs} (hx : d[i]? = some x) : (keepTo d us d.length).2[i]? = some (if (i : Int) ∈ us then ((keepTo d us i).1.length : Int) else -1) ∧ ((i : Int) ∈ us → (keepTo d us d.length).1[(keepTo d us i).1.length]? = some x) := by
  have hlt := (List.getElem?_eq_some_iff.1 hx).1
  obtain ⟨p1, p2⟩ := keepTo_pre d us (i := i + 1) (m := d.length) (by omega)
  obtain ⟨q1, q2⟩ := keepTo_len d us i
  by_cases hi : (i : Int) ∈ us
  · refine ⟨prefix_get p2 ?_, fun _ => prefix_get p1 ?_⟩
    · rw [keepTo_succ, if_pos hi, if_pos hi]; simp only
      rw [List.getElem?_append_right (by omega), q2, Nat.sub_self]; rfl
    · rw [keepTo_succ, if_pos hi]; simp only
      rw [List.getElem?_append_right (Nat.le_refl _), Nat.sub_self, getD_of hx]; rfl
  · refine ⟨prefix_get p2 ?_, fun h => absurd h hi⟩
    rw [keepTo_succ, if_neg hi, if_neg hi]; simp only
    rw [List.getElem?_append_right (by omega), q2, Nat.sub_self]; rfl
theorem str_in {d : List Bs} {us : List Int} (h : strE d us = 0) : ∀ x ∈ us, 0 ≤ x ∧ x < d.length := by
  unfold strE at h
  split at h
  · rename_i h2; rw [List.all_eq_true] at h2; intro x hx; have := h2 x hx; simpa [inR] using this
  · omega
theorem keep_law {d : List Bs} {us : List Int} (hd : Inc d) (hs : ∀ x ∈ d, x.length ≤ 255) (hl : d.length ≤ 4096) (h0 : strE d us = 0) :
    bldE (strL d us) = 0 ∧ keepL d us = bldL (strL d us) ∧ keepF d us = fromL d (bldL (strL d us)) ∧ remE us (keepF d us) = 0 ∧ strE (keepL d us) (remL us (keepF d us)) = 0 ∧ strL (keepL d us) (remL us (keepF d us)) = strL d us := by
  have hin := str_in h0
  obtain ⟨_, hsl⟩ := str_ok hin
  have hK : keepL d us = (keepTo d us d.length).1 := by unfold keepL; rw [if_pos h0]
  have hF : keepF d us = (keepTo d us d.length).2 := by unfold keepF; rw [if_pos h0]
  have hmemS : ∀ s, s ∈ strL d us ↔ ∃ j : Nat, j < d.length ∧ (j : Int) ∈ us ∧ d[j]? = some s := fun s => by
    rw [hsl, List.mem_map]
    constructor
    · rintro ⟨x, hx, rfl⟩
      have := hin x hx
      have hj : d[x.toNat]? = some d[x.toNat] := List.getElem?_eq_getElem (by omega)
      exact ⟨x.toNat, by omega, by rw [Int.toNat_of_nonneg this.1]; exact hx, by rw [getD_of hj, hj]⟩
    · rintro ⟨j, h1, h2, h3⟩
      exact ⟨j, h2, by rw [Int.toNat_natCast, getD_of h3]⟩
  have hsS : ∀ s ∈ strL d us, s.length ≤ 255 := fun s h => by obtain ⟨j, _, _, h3⟩ := (hmemS s).1 h; exact hs s (List.mem_of_getElem? h3)
  obtain ⟨p1, p2⟩ := build_spec (l := strL d us) (d := []) List.Pairwise.nil
  have hkeq : (keepTo d us d.length).1 = build [] (strL d us) := (keepTo_inc hd us _ (Nat.le_refl _)).ext p1 fun s => by
    rw [keepTo_mem d us s _ (Nat.le_refl _), p2, hmemS]; simp
  obtain ⟨k1, k2⟩ := keepTo_len d us d.length
  obtain ⟨b1, b2⟩ := bld_ok hsS (by rw [← hkeq]; omega)
  have hKi : Inc (keepTo d us d.length).1 := keepTo_inc hd us _ (Nat.le_refl _)
  have hFrom : keepF d us = fromL d (bldL (strL d us)) := by
    rw [hF, b2, ← hkeq]
    apply List.ext_getElem?
    intro i
    rcases Nat.lt_or_ge i d.length with hi | hi
    · have hx : d[i]? = some d[i] := List.getElem?_eq_getElem hi
      obtain ⟨h1, h2⟩ := keep_at (us := us) hx
      rw [h1]
      unfold fromL
      rw [List.getElem?_map, hx]
      simp only [Option.map_some]
      by_cases hu : (i : Int) ∈ us
      · have h3 := h2 hu
        have h4 := lower_hit hKi (List.mem_of_getElem? h3)
        have h5 := hKi.inj h4 h3
        rw [if_pos hu, if_pos h4]; unfold fk; rw [if_pos h4, h5]
      · rw [if_neg hu, if_neg]
        intro h4
        obtain ⟨j, h5, h6, h7⟩ := (keepTo_mem d us _ _ (Nat.le_refl _)).1 (List.mem_of_getElem? h4)
        have := hd.inj h7 hx; subst this; exact hu h6
    · rw [List.getElem?_eq_none (by omega), List.getElem?_eq_none (by unfold fromL; simp; omega)]
  have hcode : ∀ x ∈ us, ∃ k : Nat, (keepF d us)[x.toNat]? = some (k : Int) ∧ (keepL d us)[k]? = some (d.getD x.toNat []) := fun x hx => by
    have := hin x hx
    have hj : d[x.toNat]? = some d[x.toNat] := List.getElem?_eq_getElem (by omega)
    have hu : ((x.toNat : Nat) : Int) ∈ us := by rw [Int.toNat_of_nonneg this.1]; exact hx
    obtain ⟨h1, h2⟩ := keep_at (us := us) hj
    rw [if_pos hu] at h1
    exact ⟨_, by rw [hF]; exact h1, by rw [hK, h2 hu, getD_of hj]⟩
  obtain ⟨r1, r2⟩ := rem_ok (cs := us) (m := keepF d us) (fun j hj => by
    have hx : us[j]? = some us[j] := List.getElem?_eq_getElem hj
    rw [List.getD_eq_getElem?_getD, hx]
    obtain ⟨k, h1, _⟩ := hcode us[j] (List.getElem_mem hj)
    exact remAt_k (hin _ (List.getElem_mem hj)).1 h1 (by omega))
  obtain ⟨s1, s2⟩ := str_ok (d := keepL d us) (cs := remL us (keepF d us)) (fun x hx => by
    rw [r2] at hx
    obtain ⟨y, hy, rfl⟩ := List.mem_map.1 hx
    obtain ⟨k, h1, h2⟩ := hcode y hy
    rw [getD_of h1]
    have := (List.getElem?_eq_some_iff.1 h2).1
    omega)
  refine ⟨b1, by rw [hK, hkeq, b2], hFrom, r1, s1, ?_⟩
  rw [s2, r2, hsl, List.map_map]
  refine List.map_congr_left fun x hx => ?_
  obtain ⟨k, h1, h2⟩ := hcode x hx
  simp only [Function.comp]
  rw [getD_of h1, Int.toNat_natCast, getD_of h2]
theorem keepL_len (d : List Bs) (us : List Int) : (keepL d us).length ≤ d.length := by
  unfold keepL; split
  · exact (keepTo_len d us _).1
  · simp
theorem keepF_len (d : List Bs) (us : List Int) : (keepF d us).length ≤ d.length := by
  unfold keepF; split
  · exact Nat.le_of_eq (keepTo_len d us _).2
  · simp
set_option maxHeartbeats 4000000 in
set_option maxRecDepth 100000 in
theorem lawKeeps_any {σ : World} {F : List Res} {a b : Option Addr} {c e : Nat} {l : List Bs} {us : List Int} (h : Sl σ F encT 1 (.slice a l.length c) l) (g : Sl σ F encZ 1 (.slice b us.length e) us) :
    FnT Try.prog σ F 9 [.slice a l.length c, .slice b us.length e] [] (fun u ρ => u = .bool true ∧ ρ = []) := by
  refine fn_of 109 Try.func9 rfl Try.ntmps9 rfl ?_
  refine w_seq ?_
  refine w_region ?_
  refine wl_det rfl rfl rfl (op_assign rfl) ?_
  refine wl_nil ?_
  refine st_tn ?_
  refine w_seq ?_
  refine w_seq ?_
  refine w_cutL [(28, .bool (decide (¬ Few l ∨ (us.length : Int) > 100)))] [0, 1] [] rfl (fun K' hK => ?_) ?_
  · -- cut r1
    refine w_region ?_
    refine wl_det rfl rfl rfl (op_fn Try.func13 rfl rfl rfl (known_any)) ?_
    refine wl_det rfl rfl rfl (op_not_t rfl) ?_
    refine wl_det rfl rfl rfl (op_move rfl) ?_
    refine wl_wanted_det rfl rfl rfl rfl rfl rfl rfl (op_move rfl) ?_
    refine wl_wanted_det rfl rfl rfl rfl rfl rfl rfl (op_fn Try.func14 rfl rfl rfl (few_any (Sl.app h _))) ?_
    refine wl_wanted_det rfl rfl rfl rfl rfl rfl rfl (op_not_d rfl) ?_
    refine wl_det rfl rfl rfl (op_pick_f rfl rfl) ?_
    refine wl_det rfl rfl rfl (op_move rfl) ?_
    refine wl_gsplit (t := 24) rfl (fun hg24 => ?_) (fun hg24 => ?_)
    · -- 24 is True
      refine wl_unwanted rfl rfl rfl rfl rfl rfl rfl rfl ?_
      refine wl_unwanted rfl rfl rfl rfl rfl rfl rfl rfl ?_
      refine wl_unwanted rfl rfl rfl rfl rfl rfl rfl rfl ?_
      refine wl_det rfl rfl rfl (op_pick_t rfl rfl) ?_
      refine wl_nil ?_
      refine st_tn ?_
      exact cut_done1 [] hK rfl (by first | (simp [*]; done) | (simp [*]; omega)) (by rfl) rfl rfl
    · -- 24 is False
      refine wl_wanted_det rfl rfl rfl rfl rfl rfl rfl (op_move rfl) ?_
      refine wl_wanted_det rfl rfl rfl rfl rfl rfl rfl (op_lenT rfl tS31l (Sl.ent (by first | exact Sl.app (by assumption) _ | exact Sl.app (Sl.app (by assumption) _) _))) ?_
      refine wl_wanted_det rfl rfl rfl rfl rfl rfl rfl (op_gtr rfl rfl) ?_
      refine wl_det rfl rfl rfl (op_pick_f rfl rfl) ?_
      refine wl_nil ?_
      refine st_tn ?_
      exact cut_done1 [] hK rfl (by first | (simp [*]; done) | (simp [*]; omega)) (by rfl) rfl rfl
  · -- behind r1
    show W _ _ _ _ _ [(28, _), (0, _), (1, _)] [] _
    refine w_cond_d rfl (fun hc28 => ?_) (fun hc28 => ?_)
    · -- c28.t
      refine w_seq ?_
      refine w_region ?_
      refine wl_det rfl rfl rfl (op_fn Try.func13 rfl rfl rfl (known_any)) ?_
      refine wl_det rfl rfl rfl (op_assign rfl) ?_
      refine wl_nil ?_
      refine st_tn ?_
      refine w_ret ?_
      refine st_tr ?_
      refine st_ret (vs := [_]) [] Try.results9 ⟨rfl, trivial⟩ rfl ?_
      refine ⟨_, rfl, ?_⟩
      exact ⟨rfl, rfl⟩
    · -- c28.f
      obtain ⟨hf1, hf2⟩ : Few l := Classical.byContradiction fun h => hc28 (.inl h)
      have hus : us.length ≤ 100 := by omega
      have hinc := dict_inc l
      have hds := dict_short l
      have hdl := dict_len l
      have hkl := keepL_len (dictOf l) us
      have hkf := keepF_len (dictOf l) us
      have hrl := remL_len us (keepF (dictOf l) us)
      have hs1 := strL_len (dictOf l) us
      have hs2 := strL_len (keepL (dictOf l) us) (remL us (keepF (dictOf l) us))
      have hbl := bld_len (strL (dictOf l) us)
      have hlaw := fun h0 => keep_law (us := us) hinc hds (by omega) h0
      have hfl : (fromL (dictOf l) (bldL (strL (dictOf l) us))).length = (dictOf l).length := by unfold fromL; simp
      have hbl2 : (if strE (dictOf l) us = 0 then bldL (strL (dictOf l) us) else []).length ≤ 100 := by split; (· omega); (· simp)
      refine w_skip ?_
      refine st_tn ?_
      refine w_seq ?_
      refine w_region ?_
      refine wl_det rfl rfl rfl (op_move rfl) ?_
      refine wl_op [] rfl rfl rfl rfl (op_fn Try.func21 rfl rfl rfl (dictOf_any 31 (Sl.app h _) (by omega))) ?_
      rintro _ _ ⟨a31, c31, rfl, rfl⟩
      refine wl_det rfl rfl rfl (op_assign rfl) ?_
      refine wl_nil ?_
      refine st_tn ?_
      refine w_seq ?_
      refine w_region ?_
      refine wl_det rfl rfl rfl (op_move rfl) ?_
      refine wl_det rfl rfl rfl (op_move rfl) ?_
      refine wl_op [] rfl rfl rfl rfl (op_fn Try.func37 rfl rfl rfl (keep_any (us := us) 35 135 (Sl.lab 31 rfl (by unfold maxLen; omega)) (Sl.app g _) (by omega))) ?_
      rintro _ _ ⟨a35, c35, p35, q35, rfl, rfl⟩
      refine wl_det rfl rfl rfl (op_move rfl) ?_
      refine wl_det rfl rfl rfl (op_extract rfl rfl) ?_
      refine wl_det rfl rfl rfl (op_extract rfl rfl) ?_
      refine wl_det rfl rfl rfl (op_extract rfl rfl) ?_
      refine wl_det rfl rfl rfl (op_assign rfl) ?_
      refine wl_det rfl rfl rfl (op_assign rfl) ?_
      refine wl_det rfl rfl rfl (op_assign rfl) ?_
      refine wl_nil ?_
      refine st_tn ?_
      refine w_seq ?_
      refine w_region ?_
      refine wl_det rfl rfl rfl (op_move rfl) ?_
      refine wl_det rfl rfl rfl (op_move rfl) ?_
      refine wl_op [] rfl rfl rfl rfl (op_fn Try.func38 rfl rfl rfl (rkeep_any (us := us) 42 (Sl.lab 31 rfl (by unfold maxLen; omega)) (Sl.app g _) (by omega) (fun h0 => (hlaw h0).1))) ?_
      rintro _ _ ⟨a42, c42, rfl, rfl⟩
      refine wl_det rfl rfl rfl (op_move rfl) ?_
      refine wl_det rfl rfl rfl (op_extract rfl rfl) ?_
      refine wl_det rfl rfl rfl (op_extract rfl rfl) ?_
      refine wl_det rfl rfl rfl (op_assign rfl) ?_
      refine wl_det rfl rfl rfl (op_assign rfl) ?_
      refine wl_nil ?_
      refine st_tn ?_
      refine w_seq ?_
      refine w_seq ?_
      refine w_region ?_
      refine wl_det rfl rfl rfl (op_move rfl) ?_
      refine wl_det rfl rfl rfl (op_neq rfl rfl) ?_
      refine wl_nil ?_
      refine st_tn ?_
      refine w_cond_d rfl (fun hc46 => ?_) (fun hc46 => ?_)
      · -- c46.t
        refine w_seq ?_
        have k1 : keepL (dictOf l) us = [] := by unfold keepL; rw [if_neg hc46]
        have k2 : keepF (dictOf l) us = [] := by unfold keepF; rw [if_neg hc46]
        refine w_region ?_
        refine wl_det rfl rfl rfl (op_move rfl) ?_
        refine wl_det rfl rfl rfl (op_lenT rfl tS22l (Sl.ent (Sl.lab 35 rfl (by unfold maxLen; omega)))) ?_
        refine wl_det rfl rfl rfl (op_val (v' := .bool true) (by rw [k1]; rfl) (op_eql rfl rfl)) ?_
        refine wl_det rfl rfl rfl (op_move rfl) ?_
        refine wl_wanted_det rfl rfl rfl rfl rfl rfl rfl (op_move rfl) ?_
        refine wl_wanted_det rfl rfl rfl rfl rfl rfl rfl (op_lenT rfl tS31l (Sl.ent (Sl.lab 135 rfl (by unfold maxLen; omega)))) ?_
        refine wl_wanted_det rfl rfl rfl rfl rfl rfl rfl (op_val (v' := .bool true) (by rw [k2]; rfl) (op_eql rfl rfl)) ?_
        refine wl_det rfl rfl rfl (op_pick_t rfl rfl) ?_
        refine wl_det rfl rfl rfl (op_move rfl) ?_
        refine wl_wanted_det rfl rfl rfl rfl rfl rfl rfl (op_move rfl) ?_
        refine wl_wanted_det rfl rfl rfl rfl rfl rfl rfl (op_move rfl) ?_
        refine wl_wanted_det rfl rfl rfl rfl rfl rfl rfl (op_val (v' := .bool true) (by simp) (op_eql rfl rfl)) ?_
        refine wl_det rfl rfl rfl (op_pick_t rfl rfl) ?_
        refine wl_det rfl rfl rfl (op_assign rfl) ?_
        refine wl_nil ?_
        refine st_tn ?_
        refine w_ret ?_
        refine st_tr ?_
        refine st_ret (vs := [_]) [] Try.results9 ⟨rfl, trivial⟩ rfl ?_
        refine ⟨_, rfl, ?_⟩
        exact ⟨rfl, rfl⟩
      · -- c46.f
        have h0 : strE (dictOf l) us = 0 := Classical.not_not.1 hc46
        obtain ⟨m1, m2, m3, m4, m5, m6⟩ := hlaw h0
        refine w_skip ?_
        refine st_tn ?_
        refine w_seq ?_
        refine w_seq ?_
        rw [if_pos h0]
        refine w_region ?_
        refine wl_det rfl rfl rfl (op_move rfl) ?_
        refine wl_det rfl rfl rfl (op_move rfl) ?_
        refine wl_det rfl rfl rfl (op_val (v' := .bool true) (by rw [decide_eq_true m2]) (op_fn Try.func19 rfl rfl rfl (same_any (Sl.lab 35 rfl (by unfold maxLen; omega)) (Sl.lab 42 rfl (by unfold maxLen; omega))))) ?_
        refine wl_det rfl rfl rfl (op_not_t rfl) ?_
        refine wl_det rfl rfl rfl (op_move rfl) ?_
        refine wl_wanted_det rfl rfl rfl rfl rfl rfl rfl (op_move rfl) ?_
        refine wl_wanted_det rfl rfl rfl rfl rfl rfl rfl (op_move rfl) ?_
        refine wl_wanted_det rfl rfl rfl rfl rfl rfl rfl (op_move rfl) ?_
        refine wl_wanted [] rfl rfl rfl rfl rfl rfl rfl rfl (op_fn Try.func30 rfl rfl rfl (from_any 68 (Sl.lab 31 rfl (by unfold maxLen; omega)) (Sl.lab 42 rfl (by unfold maxLen; omega)) (by omega))) ?_
        rintro _ _ ⟨a68, c68, rfl, rfl⟩
        refine wl_wanted_det rfl rfl rfl rfl rfl rfl rfl (op_val (v' := .bool true) (by rw [decide_eq_true m3]) (op_fn Try.func29 rfl rfl rfl (sameI_any (Sl.lab 135 rfl (by unfold maxLen; omega)) (Sl.lab 68 rfl (by unfold maxLen; omega))))) ?_
        refine wl_wanted_det rfl rfl rfl rfl rfl rfl rfl (op_not_t rfl) ?_
        refine wl_det rfl rfl rfl (op_pick_f rfl rfl) ?_
        refine wl_det rfl rfl rfl (op_move rfl) ?_
        refine wl_wanted_det rfl rfl rfl rfl rfl rfl rfl (op_move rfl) ?_
        refine wl_wanted_det rfl rfl rfl rfl rfl rfl rfl (op_val (v' := .bool false) (by rw [h0]; rfl) (op_neq rfl rfl)) ?_
        refine wl_det rfl rfl rfl (op_pick_f rfl rfl) ?_
        refine wl_nil ?_
        refine st_tn ?_
        refine w_cond_f (rfl) ?_
        refine w_skip ?_
        refine st_tn ?_
        refine w_seq ?_
        refine w_region ?_
        refine wl_det rfl rfl rfl (op_move rfl) ?_
        refine wl_det rfl rfl rfl (op_move rfl) ?_
        refine wl_op [] rfl rfl rfl rfl (op_fn Try.func35 rfl rfl rfl (remap_any 79 (Sl.app g _) (Sl.lab 135 rfl (by unfold maxLen; omega)) (by omega))) ?_
        rintro _ _ ⟨a79, c79, rfl, rfl⟩
        refine wl_det rfl rfl rfl (op_move rfl) ?_
        refine wl_det rfl rfl rfl (op_extract rfl rfl) ?_
        refine wl_det rfl rfl rfl (op_extract rfl rfl) ?_
        refine wl_det rfl rfl rfl (op_assign rfl) ?_
        refine wl_det rfl rfl rfl (op_assign rfl) ?_
        refine wl_nil ?_
        refine st_tn ?_
        refine w_seq ?_
        refine w_region ?_
        refine wl_det rfl rfl rfl (op_move rfl) ?_
        refine wl_det rfl rfl rfl (op_move rfl) ?_
        refine wl_op [] rfl rfl rfl rfl (op_fn Try.func33 rfl rfl rfl (strings_any 85 (Sl.lab 35 rfl (by unfold maxLen; omega)) (Sl.lab 79 rfl (by unfold maxLen; omega)) (by omega))) ?_
        rintro _ _ ⟨a85, c85, rfl, rfl⟩
        refine wl_det rfl rfl rfl (op_move rfl) ?_
        refine wl_det rfl rfl rfl (op_extract rfl rfl) ?_
        refine wl_det rfl rfl rfl (op_extract rfl rfl) ?_
        refine wl_det rfl rfl rfl (op_assign rfl) ?_
        refine wl_det rfl rfl rfl (op_assign rfl) ?_
        refine wl_nil ?_
        refine st_tn ?_
        refine w_seq ?_
        refine w_region ?_
        refine wl_det rfl rfl rfl (op_move rfl) ?_
        refine wl_det rfl rfl rfl (op_move rfl) ?_
        refine wl_op [] rfl rfl rfl rfl (op_fn Try.func33 rfl rfl rfl (strings_any 91 (Sl.lab 31 rfl (by unfold maxLen; omega)) (Sl.app g _) (by omega))) ?_
        rintro _ _ ⟨a91, c91, rfl, rfl⟩
        refine wl_det rfl rfl rfl (op_move rfl) ?_
        refine wl_det rfl rfl rfl (op_extract rfl rfl) ?_
        refine wl_det rfl rfl rfl (op_extract rfl rfl) ?_
        refine wl_det rfl rfl rfl (op_assign rfl) ?_
        refine wl_det rfl rfl rfl (op_assign rfl) ?_
        refine wl_nil ?_
        refine st_tn ?_
        refine w_seq ?_
        refine w_region ?_
        refine wl_det rfl rfl rfl (op_move rfl) ?_
        refine wl_det rfl rfl rfl (op_val (v' := .bool true) (by rw [m4]; rfl) (op_eql rfl rfl)) ?_
        refine wl_det rfl rfl rfl (op_move rfl) ?_
        refine wl_wanted_det rfl rfl rfl rfl rfl rfl rfl (op_move rfl) ?_
        refine wl_wanted_det rfl rfl rfl rfl rfl rfl rfl (op_val (v' := .bool true) (by rw [m5]; rfl) (op_eql rfl rfl)) ?_
        refine wl_det rfl rfl rfl (op_pick_t rfl rfl) ?_
        refine wl_det rfl rfl rfl (op_move rfl) ?_
        refine wl_wanted_det rfl rfl rfl rfl rfl rfl rfl (op_move rfl) ?_
        refine wl_wanted_det rfl rfl rfl rfl rfl rfl rfl (op_val (v' := .bool true) (by rw [h0]; rfl) (op_eql rfl rfl)) ?_
        refine wl_det rfl rfl rfl (op_pick_t rfl rfl) ?_
        refine wl_det rfl rfl rfl (op_move rfl) ?_
        refine wl_wanted_det rfl rfl rfl rfl rfl rfl rfl (op_move rfl) ?_
        refine wl_wanted_det rfl rfl rfl rfl rfl rfl rfl (op_move rfl) ?_
        refine wl_wanted_det rfl rfl rfl rfl rfl rfl rfl (op_val (v' := .bool true) (by rw [decide_eq_true m6]) (op_fn Try.func19 rfl rfl rfl (same_any (Sl.lab 85 rfl (by unfold maxLen; omega)) (Sl.lab 91 rfl (by unfold maxLen; omega))))) ?_
        refine wl_det rfl rfl rfl (op_pick_t rfl rfl) ?_
        refine wl_det rfl rfl rfl (op_assign rfl) ?_
        refine wl_nil ?_
        refine st_tn ?_
        refine w_ret ?_
        refine st_ret (vs := [_]) [] Try.results9 ⟨rfl, trivial⟩ rfl ?_
        refine ⟨_, rfl, ?_⟩
        exact ⟨rfl, rfl⟩

end Go.Proofs.Ytbpihhaiechnbaa
