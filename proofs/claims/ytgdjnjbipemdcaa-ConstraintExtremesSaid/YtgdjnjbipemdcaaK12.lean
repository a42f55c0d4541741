/- Contracts: checks, assignments (layer 9). Conditions: none. -/
import Derived.Test.YtgdjnjbipemdcaaK11
namespace Go.Proofs.Ytgdjnjbipemdcaa
open Go Go.SL Go.RowKit Go.ConM
set_option linter.unusedVariables false
set_option linter.unusedSimpArgs false
theorem tF34_0l : fieldB Try.prog 34 0 0 = true := by kernel_rfl
theorem tF34_1l : fieldB Try.prog 34 1 1 = true := by kernel_rfl
theorem tL26_1l : zerosB Try.prog 26 3 1 1 = some [Value.int .i64 0] := by kernel_rfl
theorem tO3l : oneB Try.prog 3 = true := by kernel_rfl
theorem tP26l : appB Try.prog 26 3 1 8 = true := by kernel_rfl
theorem tS24l : sliceB Try.prog 24 34 3 = true := by kernel_rfl
theorem tS26l : sliceB Try.prog 26 3 1 = true := by kernel_rfl

-- CALL sleuth/constraint.Implies imp_any _ _ _ {s0} (by assumption) (by assumption) (by assumption) (by assumption) (by assumption)
set_option maxHeartbeats 1000000 in
set_option maxRecDepth 100000 in
theorem rnodes_any {σ : World} {F : List Res} {a : Option Addr} {c : Nat} {l : List Con} (lab : Nat) (h : Sl σ F encC 3 (.slice a l.length c) l) (hb : InB l) (hl : l.length ≤ 16384) :
    FnT Try.prog σ F 32 [.slice a l.length c] [] (NewZ (nodes l) lab) := by
  refine fn_of 45 Try.func32 rfl Try.ntmps32 rfl ?_
  have hle := h.i64
  refine w_seq ?_
  refine w_region ?_
  refine wl_det rfl rfl rfl (op_assign rfl) ?_
  refine wl_nil ?_
  refine st_tn ?_
  refine w_seq ?_
  refine w_region ?_
  refine wl_det rfl rfl rfl (op_assign rfl) ?_
  refine wl_nil ?_
  refine st_tn ?_
  refine w_seq ?_
  refine w_seq ?_
  refine w_region ?_
  refine wl_det rfl rfl rfl (op_assign rfl) ?_
  refine wl_nil ?_
  refine st_tn ?_
  refine w_block ?_
  refine w_emp 3 (slO_nil 3 1) ?_
  refine w_loopQ (X := Nat × List Int × Option Addr × Nat) (fun z => z.1 ≤ l.length ∧ z.2.1.length ≤ 2 * z.1 ∧ ∀ x, x ∈ z.2.1 ↔ ∃ c ∈ l.take z.1, x = c.f ∨ x = c.t) (fun z => [(4, .int .i64 (z.1)), (3, .slice (z.2.2.1) (z.2.1).length (z.2.2.2))]) (fun z => [(3, slW 3 SL.encZ 1 (.slice (z.2.2.1) (z.2.1).length (z.2.2.2)) (z.2.1))]) (fun z => l.length - z.1) ((0, [], none, 0)) [(0, _)] [] [3] rfl (rfl) (.cons rfl (.cons rfl (.nil _))) (.cons rfl (.nil _)) (by
      try dsimp only
      exact ⟨Nat.zero_le _, by simp, by simp⟩) ?_
  rintro ⟨i, out, a_out, c_out⟩ ⟨hi, hol, hom⟩
  refine w_norm2 (by dsimp only [List.cons_append, List.nil_append]) (by dsimp only [List.cons_append, List.nil_append]) ?_
  try dsimp only at hi hol hom ⊢
  refine w_seq ?_
  refine w_seq ?_
  refine w_region ?_
  refine wl_det rfl rfl rfl (op_move rfl) ?_
  refine wl_det rfl rfl rfl (op_move rfl) ?_
  refine wl_det rfl rfl rfl (op_lenT rfl tS24l (Sl.ent (by first | exact Sl.app (by assumption) _ | exact Sl.app (Sl.app (by assumption) _) _))) ?_
  refine wl_det rfl rfl rfl (op_lss rfl rfl) ?_
  refine wl_nil ?_
  refine st_tn ?_
  refine w_cond_d rfl (fun hc8 => ?_) (fun hc8 => ?_)
  · -- c8.t
    obtain ⟨y, hy⟩ := getE (l := l) (i := i) (by omega)
    have hlt := ltE hy
    refine w_skip ?_
    refine st_tn ?_
    refine w_seq ?_
    refine w_block ?_
    refine w_seq ?_
    refine w_seq ?_
    refine w_region ?_
    refine wl_det rfl rfl rfl (op_move rfl) ?_
    refine wl_det rfl rfl rfl (op_move rfl) ?_
    refine wl_det rfl rfl rfl (op_move rfl) ?_
    refine wl_det rfl rfl rfl (op_idx rfl rfl tS24l (Sl.ent (by first | exact Sl.app (by assumption) _ | exact Sl.app (Sl.app (by assumption) _) _)) (by omega)) ?_
    refine wl_det rfl rfl rfl (op_fieldAddr (off := 0) rfl tF34_0l) ?_
    refine wl_det rfl rfl rfl (op_ldxf rfl tO3l (by first | exact Sl.app (by assumption) _ | exact Sl.app (Sl.app (by assumption) _) _) (by assumption) (by rfl)) ?_
    refine wl_det rfl rfl rfl (op_fn Try.func50 rfl rfl rfl (has_any _ (Sl.lab 3 rfl (by unfold maxLen; (try simp only [List.length_append, List.length_singleton]); omega)))) ?_
    refine wl_det rfl rfl rfl (op_not_d rfl) ?_
    refine wl_nil ?_
    refine st_tn ?_
    refine w_cond_d rfl (fun hc18 => ?_) (fun hc18 => ?_)
    · -- c18.t
      refine w_region ?_
      refine wl_det rfl rfl rfl (op_move rfl) ?_
      refine wl_det rfl rfl rfl (op_move rfl) ?_
      refine wl_det rfl rfl rfl (op_move rfl) ?_
      refine wl_det rfl rfl rfl (op_idx rfl rfl tS24l (Sl.ent (by first | exact Sl.app (by assumption) _ | exact Sl.app (Sl.app (by assumption) _) _)) (by omega)) ?_
      refine wl_det rfl rfl rfl (op_fieldAddr (off := 0) rfl tF34_0l) ?_
      refine wl_det rfl rfl rfl (op_ldxf rfl tO3l (by first | exact Sl.app (by assumption) _ | exact Sl.app (Sl.app (by assumption) _) _) (by assumption) (by rfl)) ?_
      refine wl_op [] rfl rfl rfl rfl (op_buildSlice (enc := SL.encZ) (l := [_]) (lab := 25) tL26_1l rfl rfl (fun _ => rfl) rfl) ?_
      rintro _ _ ⟨a25, c25, rfl, rfl⟩
      refine wl_op [3] rfl rfl rfl rfl (op_append (lab := 3) (lab' := 26) rfl rfl tP26l SL.enc1Z (Sl.lab 25 rfl (by simp [maxLen])) (by (try simp only [List.length_append, List.length_singleton]); omega) (by (try simp only [List.length_append, List.length_singleton]); omega)) ?_
      rintro _ _ ⟨a26, c26, rfl, rfl⟩
      refine wl_det rfl rfl rfl (op_assign rfl) ?_
      refine wl_nil ?_
      refine st_tn ?_
      refine w_seq ?_
      refine w_region ?_
      refine wl_det rfl rfl rfl (op_move rfl) ?_
      refine wl_det rfl rfl rfl (op_move rfl) ?_
      refine wl_det rfl rfl rfl (op_move rfl) ?_
      refine wl_det rfl rfl rfl (op_idx rfl rfl tS24l (Sl.ent (by first | exact Sl.app (by assumption) _ | exact Sl.app (Sl.app (by assumption) _) _)) (by omega)) ?_
      refine wl_det rfl rfl rfl (op_fieldAddr (off := 1) rfl tF34_1l) ?_
      refine wl_det rfl rfl rfl (op_ldxf rfl tO3l (by first | exact Sl.app (by assumption) _ | exact Sl.app (Sl.app (by assumption) _) _) (by assumption) (by rfl)) ?_
      refine wl_det rfl rfl rfl (op_fn Try.func50 rfl rfl rfl (has_any _ (Sl.lab 26 rfl (by unfold maxLen; (try simp only [List.length_append, List.length_singleton]); omega)))) ?_
      refine wl_det rfl rfl rfl (op_not_d rfl) ?_
      refine wl_nil ?_
      refine st_tn ?_
      refine w_cond_d rfl (fun hc34 => ?_) (fun hc34 => ?_)
      · -- c34.t
        refine w_region ?_
        refine wl_det rfl rfl rfl (op_move rfl) ?_
        refine wl_det rfl rfl rfl (op_move rfl) ?_
        refine wl_det rfl rfl rfl (op_move rfl) ?_
        refine wl_det rfl rfl rfl (op_idx rfl rfl tS24l (Sl.ent (by first | exact Sl.app (by assumption) _ | exact Sl.app (Sl.app (by assumption) _) _)) (by omega)) ?_
        refine wl_det rfl rfl rfl (op_fieldAddr (off := 1) rfl tF34_1l) ?_
        refine wl_det rfl rfl rfl (op_ldxf rfl tO3l (by first | exact Sl.app (by assumption) _ | exact Sl.app (Sl.app (by assumption) _) _) (by assumption) (by rfl)) ?_
        refine wl_op [] rfl rfl rfl rfl (op_buildSlice (enc := SL.encZ) (l := [_]) (lab := 41) tL26_1l rfl rfl (fun _ => rfl) rfl) ?_
        rintro _ _ ⟨a41, c41, rfl, rfl⟩
        refine wl_op [26] rfl rfl rfl rfl (op_append (lab := 26) (lab' := 42) rfl rfl tP26l SL.enc1Z (Sl.lab 41 rfl (by simp [maxLen])) (by (try simp only [List.length_append, List.length_singleton]); omega) (by (try simp only [List.length_append, List.length_singleton]); omega)) ?_
        rintro _ _ ⟨a42, c42, rfl, rfl⟩
        refine wl_det rfl rfl rfl (op_assign rfl) ?_
        refine wl_nil ?_
        refine st_bn ?_
        refine st_tn ?_
        refine w_region ?_
        refine wl_det rfl rfl rfl (op_move rfl) ?_
        refine wl_det rfl rfl rfl (op_add' rfl rfl (by omega)) ?_
        refine wl_det rfl rfl rfl (op_assign rfl) ?_
        refine wl_nil ?_
        refine st_roundQ (x := (i, out, a_out, c_out)) ((i + 1, _, _, _)) [42] rfl (rfl) (.cons rfl (.cons rfl (.nil _))) (.cons rfl (.nil _)) (by
            try dsimp only
            refine ⟨by omega, by (try simp only [List.length_append, List.length_singleton]); omega, fun x => ?_⟩
            have hsp : (∃ c ∈ l.take (i + 1), x = c.f ∨ x = c.t) ↔ (∃ c ∈ l.take i, x = c.f ∨ x = c.t) ∨ x = y.f ∨ x = y.t := by
              rw [take_snoc hy]
              constructor
              · rintro ⟨c, hc, h⟩
                rcases List.mem_append.1 hc with hc | hc
                · exact .inl ⟨c, hc, h⟩
                · rw [List.mem_singleton] at hc; subst hc; exact .inr h
              · rintro (⟨c, hc, h⟩ | h)
                · exact ⟨c, List.mem_append_left _ hc, h⟩
                · exact ⟨y, by simp, h⟩
            have hox := hom x
            rw [hsp, ← hom]
            clear hsp hom hox
            try simp only [List.mem_append, List.mem_singleton] at *
            grind) (by
            try dsimp only
            omega) 
      · -- c34.f
        refine w_skip ?_
        refine st_bn ?_
        refine st_tn ?_
        refine w_region ?_
        refine wl_det rfl rfl rfl (op_move rfl) ?_
        refine wl_det rfl rfl rfl (op_add' rfl rfl (by omega)) ?_
        refine wl_det rfl rfl rfl (op_assign rfl) ?_
        refine wl_nil ?_
        refine st_roundQ (x := (i, out, a_out, c_out)) ((i + 1, _, _, _)) [26] rfl (rfl) (.cons rfl (.cons rfl (.nil _))) (.cons rfl (.nil _)) (by
            try dsimp only
            refine ⟨by omega, by (try simp only [List.length_append, List.length_singleton]); omega, fun x => ?_⟩
            have hsp : (∃ c ∈ l.take (i + 1), x = c.f ∨ x = c.t) ↔ (∃ c ∈ l.take i, x = c.f ∨ x = c.t) ∨ x = y.f ∨ x = y.t := by
              rw [take_snoc hy]
              constructor
              · rintro ⟨c, hc, h⟩
                rcases List.mem_append.1 hc with hc | hc
                · exact .inl ⟨c, hc, h⟩
                · rw [List.mem_singleton] at hc; subst hc; exact .inr h
              · rintro (⟨c, hc, h⟩ | h)
                · exact ⟨c, List.mem_append_left _ hc, h⟩
                · exact ⟨y, by simp, h⟩
            have hox := hom x
            rw [hsp, ← hom]
            clear hsp hom hox
            try simp only [List.mem_append, List.mem_singleton] at *
            grind) (by
            try dsimp only
            omega) 
    · -- c18.f
      refine w_skip ?_
      refine st_tn ?_
      refine w_seq ?_
      refine w_region ?_
      refine wl_det rfl rfl rfl (op_move rfl) ?_
      refine wl_det rfl rfl rfl (op_move rfl) ?_
      refine wl_det rfl rfl rfl (op_move rfl) ?_
      refine wl_det rfl rfl rfl (op_idx rfl rfl tS24l (Sl.ent (by first | exact Sl.app (by assumption) _ | exact Sl.app (Sl.app (by assumption) _) _)) (by omega)) ?_
      refine wl_det rfl rfl rfl (op_fieldAddr (off := 1) rfl tF34_1l) ?_
      refine wl_det rfl rfl rfl (op_ldxf rfl tO3l (by first | exact Sl.app (by assumption) _ | exact Sl.app (Sl.app (by assumption) _) _) (by assumption) (by rfl)) ?_
      refine wl_det rfl rfl rfl (op_fn Try.func50 rfl rfl rfl (has_any _ (Sl.lab 3 rfl (by unfold maxLen; (try simp only [List.length_append, List.length_singleton]); omega)))) ?_
      refine wl_det rfl rfl rfl (op_not_d rfl) ?_
      refine wl_nil ?_
      refine st_tn ?_
      refine w_cond_d rfl (fun hc34 => ?_) (fun hc34 => ?_)
      · -- c34.t
        refine w_region ?_
        refine wl_det rfl rfl rfl (op_move rfl) ?_
        refine wl_det rfl rfl rfl (op_move rfl) ?_
        refine wl_det rfl rfl rfl (op_move rfl) ?_
        refine wl_det rfl rfl rfl (op_idx rfl rfl tS24l (Sl.ent (by first | exact Sl.app (by assumption) _ | exact Sl.app (Sl.app (by assumption) _) _)) (by omega)) ?_
        refine wl_det rfl rfl rfl (op_fieldAddr (off := 1) rfl tF34_1l) ?_
        refine wl_det rfl rfl rfl (op_ldxf rfl tO3l (by first | exact Sl.app (by assumption) _ | exact Sl.app (Sl.app (by assumption) _) _) (by assumption) (by rfl)) ?_
        refine wl_op [] rfl rfl rfl rfl (op_buildSlice (enc := SL.encZ) (l := [_]) (lab := 41) tL26_1l rfl rfl (fun _ => rfl) rfl) ?_
        rintro _ _ ⟨a41, c41, rfl, rfl⟩
        refine wl_op [3] rfl rfl rfl rfl (op_append (lab := 3) (lab' := 42) rfl rfl tP26l SL.enc1Z (Sl.lab 41 rfl (by simp [maxLen])) (by (try simp only [List.length_append, List.length_singleton]); omega) (by (try simp only [List.length_append, List.length_singleton]); omega)) ?_
        rintro _ _ ⟨a42, c42, rfl, rfl⟩
        refine wl_det rfl rfl rfl (op_assign rfl) ?_
        refine wl_nil ?_
        refine st_bn ?_
        refine st_tn ?_
        refine w_region ?_
        refine wl_det rfl rfl rfl (op_move rfl) ?_
        refine wl_det rfl rfl rfl (op_add' rfl rfl (by omega)) ?_
        refine wl_det rfl rfl rfl (op_assign rfl) ?_
        refine wl_nil ?_
        refine st_roundQ (x := (i, out, a_out, c_out)) ((i + 1, _, _, _)) [42] rfl (rfl) (.cons rfl (.cons rfl (.nil _))) (.cons rfl (.nil _)) (by
            try dsimp only
            refine ⟨by omega, by (try simp only [List.length_append, List.length_singleton]); omega, fun x => ?_⟩
            have hsp : (∃ c ∈ l.take (i + 1), x = c.f ∨ x = c.t) ↔ (∃ c ∈ l.take i, x = c.f ∨ x = c.t) ∨ x = y.f ∨ x = y.t := by
              rw [take_snoc hy]
              constructor
              · rintro ⟨c, hc, h⟩
                rcases List.mem_append.1 hc with hc | hc
                · exact .inl ⟨c, hc, h⟩
                · rw [List.mem_singleton] at hc; subst hc; exact .inr h
              · rintro (⟨c, hc, h⟩ | h)
                · exact ⟨c, List.mem_append_left _ hc, h⟩
                · exact ⟨y, by simp, h⟩
            have hox := hom x
            rw [hsp, ← hom]
            clear hsp hom hox
            try simp only [List.mem_append, List.mem_singleton] at *
            grind) (by
            try dsimp only
            omega) 
      · -- c34.f
        refine w_skip ?_
        refine st_bn ?_
        refine st_tn ?_
        refine w_region ?_
        refine wl_det rfl rfl rfl (op_move rfl) ?_
        refine wl_det rfl rfl rfl (op_add' rfl rfl (by omega)) ?_
        refine wl_det rfl rfl rfl (op_assign rfl) ?_
        refine wl_nil ?_
        refine st_roundQ (x := (i, out, a_out, c_out)) ((i + 1, _, _, _)) [3] rfl (rfl) (.cons rfl (.cons rfl (.nil _))) (.cons rfl (.nil _)) (by
            try dsimp only
            refine ⟨by omega, by (try simp only [List.length_append, List.length_singleton]); omega, fun x => ?_⟩
            have hsp : (∃ c ∈ l.take (i + 1), x = c.f ∨ x = c.t) ↔ (∃ c ∈ l.take i, x = c.f ∨ x = c.t) ∨ x = y.f ∨ x = y.t := by
              rw [take_snoc hy]
              constructor
              · rintro ⟨c, hc, h⟩
                rcases List.mem_append.1 hc with hc | hc
                · exact .inl ⟨c, hc, h⟩
                · rw [List.mem_singleton] at hc; subst hc; exact .inr h
              · rintro (⟨c, hc, h⟩ | h)
                · exact ⟨c, List.mem_append_left _ hc, h⟩
                · exact ⟨y, by simp, h⟩
            have hox := hom x
            rw [hsp, ← hom]
            clear hsp hom hox
            try simp only [List.mem_append, List.mem_singleton] at *
            grind) (by
            try dsimp only
            omega) 
  · -- c8.f
    refine w_exit ?_
    refine st_te ?_
    refine st_te ?_
    refine st_be ?_
    refine st_tn ?_
    refine w_seq ?_
    rw [take_all (by omega)] at hom
    refine w_region ?_
    refine wl_det rfl rfl rfl (op_move rfl) ?_
    refine wl_op [] rfl rfl rfl rfl (op_fn Try.func57 rfl rfl rfl (rsorted_any 44 (Sl.lab 3 rfl (by unfold maxLen; omega)) (by omega))) ?_
    rintro _ _ ⟨S, a44, c44, hss, hsm, rfl, rfl⟩
    refine wl_det rfl rfl rfl (op_assign rfl) ?_
    refine wl_nil ?_
    refine st_tn ?_
    refine w_ret ?_
    refine st_ret (vs := [_]) [44] Try.results32 ⟨rfl, trivial⟩ rfl ?_
    refine ⟨[(lab, _)], rfl, ?_⟩
    have hS : S = nodes l := nodes_eq hss fun x => (hsm x).trans (hom x)
    rw [← hS]; exact ⟨_, _, rfl, rfl⟩

set_option maxHeartbeats 400000 in
set_option maxRecDepth 100000 in
theorem rnode_any {σ : World} {F : List Res} (x : Int) :
    FnT Try.prog σ F 56 [.int .i64 x] [] (fun u ρ => u = .bool (decide (-1048576 ≤ x ∧ x ≤ 1048576)) ∧ ρ = []) := by
  refine fn_of 9 Try.func56 rfl Try.ntmps56 rfl ?_
  refine w_seq ?_
  refine w_region ?_
  refine wl_det rfl rfl rfl (op_assign rfl) ?_
  refine wl_nil ?_
  refine st_tn ?_
  refine w_seq ?_
  refine w_region ?_
  refine wl_det rfl rfl rfl (op_move rfl) ?_
  refine wl_det rfl rfl rfl (op_geq rfl rfl) ?_
  refine wl_det rfl rfl rfl (op_move rfl) ?_
  refine wl_gsplit (t := 5) rfl (fun hg5 => ?_) (fun hg5 => ?_)
  · -- 5 is True
    refine wl_wanted_det rfl rfl rfl rfl rfl rfl rfl (op_move rfl) ?_
    refine wl_wanted_det rfl rfl rfl rfl rfl rfl rfl (op_leq rfl rfl) ?_
    refine wl_det rfl rfl rfl (op_pick_t rfl rfl) ?_
    refine wl_det rfl rfl rfl (op_assign rfl) ?_
    refine wl_nil ?_
    refine st_tn ?_
    refine w_ret ?_
    refine st_ret (vs := [_]) [] Try.results56 ⟨rfl, trivial⟩ rfl ?_
    refine ⟨_, rfl, ?_⟩
    refine ⟨?_, rfl⟩; simp only [retv]; congr 1; first | (rw [decide_eq_decide]; omega) | (symm; rw [decide_eq_false_iff_not]; omega)
  · -- 5 is False
    refine wl_unwanted rfl rfl rfl rfl rfl rfl rfl rfl ?_
    refine wl_unwanted rfl rfl rfl rfl rfl rfl rfl rfl ?_
    refine wl_det rfl rfl rfl (op_pick_f rfl rfl) ?_
    refine wl_det rfl rfl rfl (op_assign rfl) ?_
    refine wl_nil ?_
    refine st_tn ?_
    refine w_ret ?_
    refine st_ret (vs := [_]) [] Try.results56 ⟨rfl, trivial⟩ rfl ?_
    refine ⟨_, rfl, ?_⟩
    refine ⟨?_, rfl⟩; simp only [retv]; congr 1; first | (rw [decide_eq_decide]; omega) | (symm; rw [decide_eq_false_iff_not]; omega)

/-- The index of a number in a list, or -1. -/
def idxL (l : List Int) (x : Int) : Int := match l.findIdx? (fun y => decide (y = x)) with
  | some i => (i : Int)
  | none => -1
theorem idxL_of {l : List Int} {x : Int} {i : Nat} (h : l[i]? = some x) (hn : ∀ r ∈ l.take i, r ≠ x) : idxL l x = i := by
  have : l.findIdx? (fun y => decide (y = x)) = some i := by
    rw [List.findIdx?_eq_some_iff_getElem]
    obtain ⟨hlt', hge⟩ := List.getElem?_eq_some_iff.1 h
    refine ⟨hlt', by rw [hge]; simp, fun j hj => ?_⟩
    have := hn _ (List.mem_take_iff_getElem.2 ⟨j, by omega, rfl⟩)
    simpa using this
  unfold idxL; rw [this]
theorem idxL_none {l : List Int} {x : Int} (h : x ∉ l) : idxL l x = -1 := by
  have : l.findIdx? (fun y => decide (y = x)) = none := by rw [List.findIdx?_eq_none_iff]; intro y hy; simp; exact fun e => h (e ▸ hy)
  unfold idxL; rw [this]
theorem idxL_mem {l : List Int} {x : Int} (h : x ∈ l) : ∃ i : Nat, idxL l x = i ∧ l[i]? = some x := by
  cases hf : l.findIdx? (fun y => decide (y = x)) with
  | none => rw [List.findIdx?_eq_none_iff] at hf; have := hf _ h; simp at this
  | some i =>
    obtain ⟨h1, h2, _⟩ := List.findIdx?_eq_some_iff_getElem.1 hf
    refine ⟨i, by unfold idxL; rw [hf], ?_⟩
    rw [List.getElem?_eq_getElem h1]; simp at h2; rw [h2]
set_option maxHeartbeats 400000 in
set_option maxRecDepth 100000 in
theorem rindex_any {σ : World} {F : List Res} {a : Option Addr} {c : Nat} {l : List Int} (x : Int) (h : Sl σ F SL.encZ 1 (.slice a l.length c) l) :
    FnT Try.prog σ F 51 [.slice a l.length c, .int .i64 x] [] (fun u ρ => u = .int .i64 (idxL l x) ∧ ρ = []) := by
  refine fn_of 19 Try.func51 rfl Try.ntmps51 rfl ?_
  have hle := h.i64
  refine w_seq ?_
  refine w_region ?_
  refine wl_det rfl rfl rfl (op_assign rfl) ?_
  refine wl_nil ?_
  refine st_tn ?_
  refine w_seq ?_
  refine w_seq ?_
  refine w_region ?_
  refine wl_det rfl rfl rfl (op_assign rfl) ?_
  refine wl_nil ?_
  refine st_tn ?_
  refine w_block ?_
  refine w_loopQ (X := Nat) (fun z => z ≤ l.length ∧ ∀ r ∈ l.take z, r ≠ x) (fun z => [(5, .int .i64 (z))]) (fun _ => []) (fun z => l.length - z) (0) [(0, _), (1, _)] [] [] rfl (rfl) (.cons rfl (.nil _)) (.cons rfl (.cons rfl (.nil _))) (by
      try dsimp only
      exact ⟨Nat.zero_le _, by simp⟩) ?_
  rintro i ⟨hi, hn⟩
  refine w_norm2 (by dsimp only [List.cons_append, List.nil_append]) (by dsimp only [List.cons_append, List.nil_append]) ?_
  try dsimp only at hi hn ⊢
  refine w_seq ?_
  refine w_seq ?_
  refine w_region ?_
  refine wl_det rfl rfl rfl (op_move rfl) ?_
  refine wl_det rfl rfl rfl (op_move rfl) ?_
  refine wl_det rfl rfl rfl (op_lenT rfl tS26l (Sl.ent (by first | exact Sl.app (by assumption) _ | exact Sl.app (Sl.app (by assumption) _) _))) ?_
  refine wl_det rfl rfl rfl (op_lss rfl rfl) ?_
  refine wl_nil ?_
  refine st_tn ?_
  refine w_cond_d rfl (fun hc9 => ?_) (fun hc9 => ?_)
  · -- c9.t
    obtain ⟨y, hy⟩ := getE (l := l) (i := i) (by omega)
    have hlt := ltE hy
    refine w_skip ?_
    refine st_tn ?_
    refine w_seq ?_
    refine w_block ?_
    refine w_seq ?_
    refine w_region ?_
    refine wl_det rfl rfl rfl (op_move rfl) ?_
    refine wl_det rfl rfl rfl (op_move rfl) ?_
    refine wl_det rfl rfl rfl (op_idx rfl rfl tS26l (Sl.ent (by first | exact Sl.app (by assumption) _ | exact Sl.app (Sl.app (by assumption) _) _)) (by omega)) ?_
    refine wl_det rfl rfl rfl (op_ldx rfl tO3l (by first | exact Sl.app (by assumption) _ | exact Sl.app (Sl.app (by assumption) _) _) (by assumption) (by rfl)) ?_
    refine wl_det rfl rfl rfl (op_move rfl) ?_
    refine wl_det rfl rfl rfl (op_eql rfl rfl) ?_
    refine wl_nil ?_
    refine st_tn ?_
    refine w_cond_d rfl (fun hc17 => ?_) (fun hc17 => ?_)
    · -- c17.t
      refine w_seq ?_
      refine w_region ?_
      refine wl_det rfl rfl rfl (op_move rfl) ?_
      refine wl_det rfl rfl rfl (op_assign rfl) ?_
      refine wl_nil ?_
      refine st_tn ?_
      refine w_ret ?_
      refine st_br ?_
      refine st_tr ?_
      refine st_tr ?_
      refine st_br ?_
      refine st_tr ?_
      refine st_ret (vs := [_]) [] Try.results51 ⟨rfl, trivial⟩ rfl ?_
      refine ⟨_, rfl, ?_⟩
      subst hc17; rw [idxL_of hy hn]; exact ⟨rfl, rfl⟩
    · -- c17.f
      refine w_skip ?_
      refine st_bn ?_
      refine st_tn ?_
      refine w_region ?_
      refine wl_det rfl rfl rfl (op_move rfl) ?_
      refine wl_det rfl rfl rfl (op_add' rfl rfl (by omega)) ?_
      refine wl_det rfl rfl rfl (op_assign rfl) ?_
      refine wl_nil ?_
      refine st_roundQ (x := i) (i + 1) [] rfl (rfl) (.cons rfl (.nil _)) (.cons rfl (.cons rfl (.nil _))) (by
          try dsimp only
          refine ⟨by omega, by rw [take_snoc hy]; intro q hq; rcases List.mem_append.1 hq with hq | hq; (· exact hn q hq); (· simp at hq; subst hq; exact hc17)⟩) (by
          try dsimp only
          omega) 
  · -- c9.f
    refine w_exit ?_
    refine st_te ?_
    refine st_te ?_
    refine st_be ?_
    refine st_tn ?_
    refine w_seq ?_
    refine w_region ?_
    refine wl_det rfl rfl rfl (op_assign rfl) ?_
    refine wl_nil ?_
    refine st_tn ?_
    refine w_ret ?_
    refine st_ret (vs := [_]) [] Try.results51 ⟨rfl, trivial⟩ rfl ?_
    refine ⟨_, rfl, ?_⟩
    rw [take_all (by omega)] at hn; rw [idxL_none (fun h => hn _ h rfl)]; exact ⟨rfl, rfl⟩

theorem wsub {x y : Int} (h : 0 ≤ x - y ∧ x - y ≤ 18446744073709551615) : IntKind.u64.wrap (IntKind.u64.wrap x - IntKind.u64.wrap y) = x - y := by
  simp [IntKind.wrap, IntKind.bits, IntKind.signed]; omega
def Bnd (z : Int) : Prop := -4611686018427387904 ≤ z ∧ z ≤ 4611686018427387904
set_option maxHeartbeats 400000 in
set_option maxRecDepth 100000 in
theorem greater_any {σ : World} {F : List Res} (x y z : Int) (hx : I64 x) (hy : I64 y) (hz : Bnd z) :
    FnT Try.prog σ F 58 [.int .i64 x, .int .i64 y, .int .i64 z] [] (fun u ρ => u = .bool (decide (x > y + z)) ∧ ρ = []) := by
  refine fn_of 36 Try.func58 rfl Try.ntmps58 rfl ?_
  unfold I64 at hx hy
  unfold Bnd at hz
  refine w_seq ?_
  refine w_region ?_
  refine wl_det rfl rfl rfl (op_assign rfl) ?_
  refine wl_nil ?_
  refine st_tn ?_
  refine w_seq ?_
  refine w_seq ?_
  refine w_region ?_
  refine wl_det rfl rfl rfl (op_move rfl) ?_
  refine wl_det rfl rfl rfl (op_geq rfl rfl) ?_
  refine wl_nil ?_
  refine st_tn ?_
  refine w_cond_d rfl (fun hc8 => ?_) (fun hc8 => ?_)
  · -- c8.t
    refine w_seq ?_
    refine w_region ?_
    refine wl_det rfl rfl rfl (op_move rfl) ?_
    refine wl_det rfl rfl rfl (op_move rfl) ?_
    refine wl_det rfl rfl rfl (op_gtr rfl rfl) ?_
    refine wl_det rfl rfl rfl (op_move rfl) ?_
    refine wl_gsplit (t := 12) rfl (fun hg12 => ?_) (fun hg12 => ?_)
    · -- 12 is True
      refine wl_wanted_det rfl rfl rfl rfl rfl rfl rfl (op_move rfl) ?_
      refine wl_wanted_det rfl rfl rfl rfl rfl rfl rfl (op_conv rfl (by rw [Try.underlying3]; rfl) Try.underlying104) ?_
      refine wl_wanted_det rfl rfl rfl rfl rfl rfl rfl (op_move rfl) ?_
      refine wl_wanted_det rfl rfl rfl rfl rfl rfl rfl (op_conv rfl (by rw [Try.underlying3]; rfl) Try.underlying104) ?_
      refine wl_wanted_det rfl rfl rfl rfl rfl rfl rfl (op_val (v' := .int .u64 (x - y)) (by rw [wsub (by omega)]) (op_sub rfl rfl)) ?_
      refine wl_wanted_det rfl rfl rfl rfl rfl rfl rfl (op_move rfl) ?_
      refine wl_wanted_det rfl rfl rfl rfl rfl rfl rfl (op_convU64 rfl (by rw [Try.underlying3]; rfl) Try.underlying104 (by omega)) ?_
      refine wl_wanted_det rfl rfl rfl rfl rfl rfl rfl (op_gtr rfl rfl) ?_
      refine wl_det rfl rfl rfl (op_pick_t rfl rfl) ?_
      refine wl_det rfl rfl rfl (op_assign rfl) ?_
      refine wl_nil ?_
      refine st_tn ?_
      refine w_ret ?_
      refine st_tr ?_
      refine st_ret (vs := [_]) [] Try.results58 ⟨rfl, trivial⟩ rfl ?_
      refine ⟨_, rfl, ?_⟩
      refine ⟨?_, rfl⟩; first | (simp only [retv]; done) | (simp only [retv]; (congr 1; first | (rw [decide_eq_decide]; omega) | (symm; rw [decide_eq_false_iff_not]; omega) | (symm; rw [decide_eq_true_iff]; omega)))
    · -- 12 is False
      refine wl_unwanted rfl rfl rfl rfl rfl rfl rfl rfl ?_
      refine wl_unwanted rfl rfl rfl rfl rfl rfl rfl rfl ?_
      refine wl_unwanted rfl rfl rfl rfl rfl rfl rfl rfl ?_
      refine wl_unwanted rfl rfl rfl rfl rfl rfl rfl rfl ?_
      refine wl_unwanted rfl rfl rfl rfl rfl rfl rfl rfl ?_
      refine wl_unwanted rfl rfl rfl rfl rfl rfl rfl rfl ?_
      refine wl_unwanted rfl rfl rfl rfl rfl rfl rfl rfl ?_
      refine wl_unwanted rfl rfl rfl rfl rfl rfl rfl rfl ?_
      refine wl_det rfl rfl rfl (op_pick_f rfl rfl) ?_
      refine wl_det rfl rfl rfl (op_assign rfl) ?_
      refine wl_nil ?_
      refine st_tn ?_
      refine w_ret ?_
      refine st_tr ?_
      refine st_ret (vs := [_]) [] Try.results58 ⟨rfl, trivial⟩ rfl ?_
      refine ⟨_, rfl, ?_⟩
      refine ⟨?_, rfl⟩; first | (simp only [retv]; done) | (simp only [retv]; (congr 1; first | (rw [decide_eq_decide]; omega) | (symm; rw [decide_eq_false_iff_not]; omega) | (symm; rw [decide_eq_true_iff]; omega)))
  · -- c8.f
    refine w_skip ?_
    refine st_tn ?_
    refine w_seq ?_
    refine w_region ?_
    refine wl_det rfl rfl rfl (op_move rfl) ?_
    refine wl_det rfl rfl rfl (op_move rfl) ?_
    refine wl_det rfl rfl rfl (op_geq rfl rfl) ?_
    refine wl_det rfl rfl rfl (op_move rfl) ?_
    refine wl_gsplit (t := 25) rfl (fun hg25 => ?_) (fun hg25 => ?_)
    · -- 25 is True
      refine wl_unwanted rfl rfl rfl rfl rfl rfl rfl rfl ?_
      refine wl_unwanted rfl rfl rfl rfl rfl rfl rfl rfl ?_
      refine wl_unwanted rfl rfl rfl rfl rfl rfl rfl rfl ?_
      refine wl_unwanted rfl rfl rfl rfl rfl rfl rfl rfl ?_
      refine wl_unwanted rfl rfl rfl rfl rfl rfl rfl rfl ?_
      refine wl_unwanted rfl rfl rfl rfl rfl rfl rfl rfl ?_
      refine wl_unwanted rfl rfl rfl rfl rfl rfl rfl rfl ?_
      refine wl_unwanted rfl rfl rfl rfl rfl rfl rfl rfl ?_
      refine wl_unwanted rfl rfl rfl rfl rfl rfl rfl rfl ?_
      refine wl_det rfl rfl rfl (op_pick_t rfl rfl) ?_
      refine wl_det rfl rfl rfl (op_assign rfl) ?_
      refine wl_nil ?_
      refine st_tn ?_
      refine w_ret ?_
      refine st_ret (vs := [_]) [] Try.results58 ⟨rfl, trivial⟩ rfl ?_
      refine ⟨_, rfl, ?_⟩
      refine ⟨?_, rfl⟩; first | (simp only [retv]; done) | (simp only [retv]; (congr 1; first | (rw [decide_eq_decide]; omega) | (symm; rw [decide_eq_false_iff_not]; omega) | (symm; rw [decide_eq_true_iff]; omega)))
    · -- 25 is False
      refine wl_wanted_det rfl rfl rfl rfl rfl rfl rfl (op_move rfl) ?_
      refine wl_wanted_det rfl rfl rfl rfl rfl rfl rfl (op_conv rfl (by rw [Try.underlying3]; rfl) Try.underlying104) ?_
      refine wl_wanted_det rfl rfl rfl rfl rfl rfl rfl (op_move rfl) ?_
      refine wl_wanted_det rfl rfl rfl rfl rfl rfl rfl (op_conv rfl (by rw [Try.underlying3]; rfl) Try.underlying104) ?_
      refine wl_wanted_det rfl rfl rfl rfl rfl rfl rfl (op_val (v' := .int .u64 (y - x)) (by rw [wsub (by omega)]) (op_sub rfl rfl)) ?_
      refine wl_wanted_det rfl rfl rfl rfl rfl rfl rfl (op_move rfl) ?_
      refine wl_wanted_det rfl rfl rfl rfl rfl rfl rfl (op_neg rfl (by omega)) ?_
      refine wl_wanted_det rfl rfl rfl rfl rfl rfl rfl (op_convU64 rfl (by rw [Try.underlying3]; rfl) Try.underlying104 (by omega)) ?_
      refine wl_wanted_det rfl rfl rfl rfl rfl rfl rfl (op_lss rfl rfl) ?_
      refine wl_det rfl rfl rfl (op_pick_f rfl rfl) ?_
      refine wl_det rfl rfl rfl (op_assign rfl) ?_
      refine wl_nil ?_
      refine st_tn ?_
      refine w_ret ?_
      refine st_ret (vs := [_]) [] Try.results58 ⟨rfl, trivial⟩ rfl ?_
      refine ⟨_, rfl, ?_⟩
      refine ⟨?_, rfl⟩; first | (simp only [retv]; done) | (simp only [retv]; (congr 1; first | (rw [decide_eq_decide]; omega) | (symm; rw [decide_eq_false_iff_not]; omega) | (symm; rw [decide_eq_true_iff]; omega)))

set_option maxHeartbeats 400000 in
set_option maxRecDepth 100000 in
theorem atmost_any {σ : World} {F : List Res} (x y z : Int) (hx : I64 x) (hy : I64 y) (hz : Bnd z) :
    FnT Try.prog σ F 59 [.int .i64 x, .int .i64 y, .int .i64 z] [] (fun u ρ => u = .bool (decide (x ≤ y + z)) ∧ ρ = []) := by
  refine fn_of 31 Try.func59 rfl Try.ntmps59 rfl ?_
  unfold I64 at hx hy
  unfold Bnd at hz
  refine w_seq ?_
  refine w_region ?_
  refine wl_det rfl rfl rfl (op_assign rfl) ?_
  refine wl_nil ?_
  refine st_tn ?_
  refine w_seq ?_
  refine w_seq ?_
  refine w_region ?_
  refine wl_det rfl rfl rfl (op_move rfl) ?_
  refine wl_det rfl rfl rfl (op_geq rfl rfl) ?_
  refine wl_nil ?_
  refine st_tn ?_
  refine w_cond_d rfl (fun hc8 => ?_) (fun hc8 => ?_)
  · -- c8.t
    refine w_seq ?_
    refine w_region ?_
    refine wl_det rfl rfl rfl (op_move rfl) ?_
    refine wl_det rfl rfl rfl (op_move rfl) ?_
    refine wl_det rfl rfl rfl (op_sub' rfl rfl (by omega)) ?_
    refine wl_det rfl rfl rfl (op_gtr rfl rfl) ?_
    refine wl_det rfl rfl rfl (op_move rfl) ?_
    refine wl_gsplit (t := 13) rfl (fun hg13 => ?_) (fun hg13 => ?_)
    · -- 13 is True
      refine wl_unwanted rfl rfl rfl rfl rfl rfl rfl rfl ?_
      refine wl_unwanted rfl rfl rfl rfl rfl rfl rfl rfl ?_
      refine wl_unwanted rfl rfl rfl rfl rfl rfl rfl rfl ?_
      refine wl_unwanted rfl rfl rfl rfl rfl rfl rfl rfl ?_
      refine wl_unwanted rfl rfl rfl rfl rfl rfl rfl rfl ?_
      refine wl_det rfl rfl rfl (op_pick_t rfl rfl) ?_
      refine wl_det rfl rfl rfl (op_assign rfl) ?_
      refine wl_nil ?_
      refine st_tn ?_
      refine w_ret ?_
      refine st_tr ?_
      refine st_ret (vs := [_]) [] Try.results59 ⟨rfl, trivial⟩ rfl ?_
      refine ⟨_, rfl, ?_⟩
      refine ⟨?_, rfl⟩; first | (simp only [retv]; done) | (simp only [retv]; (congr 1; first | (rw [decide_eq_decide]; omega) | (symm; rw [decide_eq_false_iff_not]; omega) | (symm; rw [decide_eq_true_iff]; omega)))
    · -- 13 is False
      refine wl_wanted_det rfl rfl rfl rfl rfl rfl rfl (op_move rfl) ?_
      refine wl_wanted_det rfl rfl rfl rfl rfl rfl rfl (op_move rfl) ?_
      refine wl_wanted_det rfl rfl rfl rfl rfl rfl rfl (op_move rfl) ?_
      refine wl_wanted_det rfl rfl rfl rfl rfl rfl rfl (op_add' rfl rfl (by omega)) ?_
      refine wl_wanted_det rfl rfl rfl rfl rfl rfl rfl (op_leq rfl rfl) ?_
      refine wl_det rfl rfl rfl (op_pick_f rfl rfl) ?_
      refine wl_det rfl rfl rfl (op_assign rfl) ?_
      refine wl_nil ?_
      refine st_tn ?_
      refine w_ret ?_
      refine st_tr ?_
      refine st_ret (vs := [_]) [] Try.results59 ⟨rfl, trivial⟩ rfl ?_
      refine ⟨_, rfl, ?_⟩
      refine ⟨?_, rfl⟩; first | (simp only [retv]; done) | (simp only [retv]; (congr 1; first | (rw [decide_eq_decide]; omega) | (symm; rw [decide_eq_false_iff_not]; omega) | (symm; rw [decide_eq_true_iff]; omega)))
  · -- c8.f
    refine w_skip ?_
    refine st_tn ?_
    refine w_seq ?_
    refine w_region ?_
    refine wl_det rfl rfl rfl (op_move rfl) ?_
    refine wl_det rfl rfl rfl (op_move rfl) ?_
    refine wl_det rfl rfl rfl (op_sub' rfl rfl (by omega)) ?_
    refine wl_det rfl rfl rfl (op_geq rfl rfl) ?_
    refine wl_det rfl rfl rfl (op_move rfl) ?_
    refine wl_gsplit (t := 24) rfl (fun hg24 => ?_) (fun hg24 => ?_)
    · -- 24 is True
      refine wl_wanted_det rfl rfl rfl rfl rfl rfl rfl (op_move rfl) ?_
      refine wl_wanted_det rfl rfl rfl rfl rfl rfl rfl (op_move rfl) ?_
      refine wl_wanted_det rfl rfl rfl rfl rfl rfl rfl (op_move rfl) ?_
      refine wl_wanted_det rfl rfl rfl rfl rfl rfl rfl (op_add' rfl rfl (by omega)) ?_
      refine wl_wanted_det rfl rfl rfl rfl rfl rfl rfl (op_leq rfl rfl) ?_
      refine wl_det rfl rfl rfl (op_pick_t rfl rfl) ?_
      refine wl_det rfl rfl rfl (op_assign rfl) ?_
      refine wl_nil ?_
      refine st_tn ?_
      refine w_ret ?_
      refine st_ret (vs := [_]) [] Try.results59 ⟨rfl, trivial⟩ rfl ?_
      refine ⟨_, rfl, ?_⟩
      refine ⟨?_, rfl⟩; first | (simp only [retv]; done) | (simp only [retv]; (congr 1; first | (rw [decide_eq_decide]; omega) | (symm; rw [decide_eq_false_iff_not]; omega) | (symm; rw [decide_eq_true_iff]; omega)))
    · -- 24 is False
      refine wl_unwanted rfl rfl rfl rfl rfl rfl rfl rfl ?_
      refine wl_unwanted rfl rfl rfl rfl rfl rfl rfl rfl ?_
      refine wl_unwanted rfl rfl rfl rfl rfl rfl rfl rfl ?_
      refine wl_unwanted rfl rfl rfl rfl rfl rfl rfl rfl ?_
      refine wl_unwanted rfl rfl rfl rfl rfl rfl rfl rfl ?_
      refine wl_det rfl rfl rfl (op_pick_f rfl rfl) ?_
      refine wl_det rfl rfl rfl (op_assign rfl) ?_
      refine wl_nil ?_
      refine st_tn ?_
      refine w_ret ?_
      refine st_ret (vs := [_]) [] Try.results59 ⟨rfl, trivial⟩ rfl ?_
      refine ⟨_, rfl, ?_⟩
      refine ⟨?_, rfl⟩; first | (simp only [retv]; done) | (simp only [retv]; (congr 1; first | (rw [decide_eq_decide]; omega) | (symm; rw [decide_eq_false_iff_not]; omega) | (symm; rw [decide_eq_true_iff]; omega)))

end Go.Proofs.Ytgdjnjbipemdcaa
