/- Contracts: the reference's Build and Merge, codes and strings (layer 6). Conditions: none. -/
import Derived.Test.YtbpihhaiechnbaaD2
namespace Go.Proofs.Ytbpihhaiechnbaa
open Go Go.SL Go.RowKit Go.DicM
set_option linter.unusedVariables false
set_option linter.unusedSimpArgs false
theorem tL31_1c : zerosB Try.prog 31 3 1 1 = some [Value.int .i64 0] := by kernel_rfl
theorem tO9c : oneB Try.prog 9 = true := by kernel_rfl
theorem tP22c : appB Try.prog 22 9 1 16 = true := by kernel_rfl
theorem tP31c : appB Try.prog 31 3 1 8 = true := by kernel_rfl
theorem tS22c : sliceB Try.prog 22 9 1 = true := by kernel_rfl

theorem insert_any {σ : World} {F : List Res} {a : Option Addr} {c : Nat} {l : List Bs} (lab lab' : Nat) (s : Bs) (hl : l.length ≤ 1048576) :
    FnT Try.prog σ F 47 [.slice a l.length c, .string (str s)] [(lab, slW 9 encT 1 (.slice a l.length c) l)] (NewT (ins l s) lab') :=
  fn_lab (insert0 lab' s hl) rfl fun u ρ h => ⟨ρ, h, rfl⟩
set_option maxHeartbeats 1000000 in
set_option maxRecDepth 100000 in
theorem rbuild_any {σ : World} {F : List Res} {a : Option Addr} {c : Nat} {l : List Bs} (lab : Nat) (h : Sl σ F encT 1 (.slice a l.length c) l) (hl : l.length ≤ 1048575) :
    FnT Try.prog σ F 16 [.slice a l.length c] [] (NewE (bldL l) (bldE l) lab) := by
  refine fn_of 35 Try.func16 rfl Try.ntmps16 rfl ?_
  have hle := h.i64
  refine w_seq ?_
  refine w_region ?_
  refine wl_det rfl rfl rfl (op_assign rfl) ?_
  refine wl_det rfl rfl rfl (op_assign rfl) ?_
  refine wl_nil ?_
  refine st_tn ?_
  refine w_seq ?_
  refine w_region ?_
  refine wl_det rfl rfl rfl (op_assign rfl) ?_
  refine wl_nil ?_
  refine st_tn ?_
  refine w_seq ?_
  refine w_seq ?_
  refine w_region ?_
  refine wl_det rfl rfl rfl (op_assign rfl) ?_
  refine wl_nil ?_
  refine st_tn ?_
  refine w_block ?_
  refine w_loopQ (X := Nat) (fun z => z ≤ l.length ∧ ∀ x ∈ l.take z, x.length ≤ 255) (fun z => [(5, .int .i64 (z))]) (fun _ => []) (fun z => l.length - z) (0) [(0, _), (4, _)] [] [] rfl (rfl) (.cons rfl (.nil _)) (.cons rfl (.cons rfl (.nil _))) (by
      try dsimp only
      exact ⟨Nat.zero_le _, by simp⟩) ?_
  rintro i ⟨hi, hn⟩
  refine w_norm2 (by dsimp only [List.cons_append, List.nil_append]) (by dsimp only [List.cons_append, List.nil_append]) ?_
  try dsimp only at hi hn ⊢
  refine w_seq ?_
  refine w_seq ?_
  refine w_region ?_
  refine wl_det rfl rfl rfl (op_move rfl) ?_
  refine wl_det rfl rfl rfl (op_move rfl) ?_
  refine wl_det rfl rfl rfl (op_lenT rfl tS22c (Sl.ent (by first | exact Sl.app (by assumption) _ | exact Sl.app (Sl.app (by assumption) _) _))) ?_
  refine wl_det rfl rfl rfl (op_lss rfl rfl) ?_
  refine wl_nil ?_
  refine st_tn ?_
  refine w_cond_d rfl (fun hc10 => ?_) (fun hc10 => ?_)
  · -- c10.t
    obtain ⟨x, hx⟩ := getE (l := l) (i := i) (by omega)
    have hlt := ltE hx
    refine w_skip ?_
    refine st_tn ?_
    refine w_seq ?_
    refine w_block ?_
    refine w_seq ?_
    refine w_region ?_
    refine wl_det rfl rfl rfl (op_move rfl) ?_
    refine wl_det rfl rfl rfl (op_move rfl) ?_
    refine wl_det rfl rfl rfl (op_idx rfl rfl tS22c (Sl.ent (by first | exact Sl.app (by assumption) _ | exact Sl.app (Sl.app (by assumption) _) _)) (by omega)) ?_
    refine wl_det rfl rfl rfl (op_ldx rfl tO9c (by first | exact Sl.app (by assumption) _ | exact Sl.app (Sl.app (by assumption) _) _) (by assumption) (by rfl)) ?_
    refine wl_det rfl rfl rfl (op_lenBs rfl Try.underlying9) ?_
    refine wl_det rfl rfl rfl (op_gtr rfl rfl) ?_
    refine wl_nil ?_
    refine st_tn ?_
    refine w_cond_d rfl (fun hc18 => ?_) (fun hc18 => ?_)
    · -- c18.t
      refine w_seq ?_
      refine w_emp 77 (slO_nil 9 1) ?_
      refine w_region ?_
      refine wl_det rfl rfl rfl (op_assign rfl) ?_
      refine wl_det rfl rfl rfl (op_assign rfl) ?_
      refine wl_nil ?_
      refine st_tn ?_
      refine w_ret ?_
      refine st_br ?_
      refine st_tr ?_
      refine st_tr ?_
      refine st_br ?_
      refine st_tr ?_
      refine st_ret (vs := [_, _]) [77] Try.results16 ⟨rfl, ⟨rfl, trivial⟩⟩ rfl ?_
      refine ⟨[(lab, _)], rfl, ?_⟩
      obtain ⟨h1, h2⟩ := bld_long (longB_of hx (by omega)); exact ⟨none, 0, by rw [h1, h2]; rfl, by rw [h2]; rfl⟩
    · -- c18.f
      refine w_skip ?_
      refine st_bn ?_
      refine st_tn ?_
      refine w_region ?_
      refine wl_det rfl rfl rfl (op_move rfl) ?_
      refine wl_det rfl rfl rfl (op_add' rfl rfl (by omega)) ?_
      refine wl_det rfl rfl rfl (op_assign rfl) ?_
      refine wl_nil ?_
      refine st_roundQ (x := i) (i + 1) [] rfl (rfl) (.cons rfl (.nil _)) (.cons rfl (.cons rfl (.nil _))) (by
          try dsimp only
          exact ⟨by omega, len_snoc hn hx hc18⟩) (by
          try dsimp only
          omega) 
  · -- c10.f
    refine w_exit ?_
    refine st_te ?_
    refine st_te ?_
    refine st_be ?_
    refine st_tn ?_
    refine w_seq ?_
    refine w_seq ?_
    rw [take_all (by omega)] at hn
    refine w_region ?_
    refine wl_det rfl rfl rfl (op_assign rfl) ?_
    refine wl_nil ?_
    refine st_tn ?_
    refine w_block ?_
    refine w_emp 4 (slO_nil 9 1) ?_
    refine w_loopQ (X := Nat × List (List UInt8) × Option Addr × Nat) (fun z => z.1 ≤ l.length ∧ z.2.1 = build [] (l.take z.1)) (fun z => [(6, .int .i64 (z.1)), (4, .slice (z.2.2.1) (z.2.1).length (z.2.2.2))]) (fun z => [(4, slW 9 encT 1 (.slice (z.2.2.1) (z.2.1).length (z.2.2.2)) (z.2.1))]) (fun z => l.length - z.1) ((0, [], none, 0)) [(0, _)] [] [4] rfl (rfl) (.cons rfl (.cons rfl (.nil _))) (.cons rfl (.nil _)) (by
        try dsimp only
        exact ⟨Nat.zero_le _, rfl⟩) ?_
    rintro ⟨i, out, a_out, c_out⟩ ⟨hi, ho⟩
    refine w_norm2 (by dsimp only [List.cons_append, List.nil_append]) (by dsimp only [List.cons_append, List.nil_append]) ?_
    try dsimp only at hi ho ⊢
    refine w_seq ?_
    refine w_seq ?_
    refine w_region ?_
    refine wl_det rfl rfl rfl (op_move rfl) ?_
    refine wl_det rfl rfl rfl (op_move rfl) ?_
    refine wl_det rfl rfl rfl (op_lenT rfl tS22c (Sl.ent (by first | exact Sl.app (by assumption) _ | exact Sl.app (Sl.app (by assumption) _) _))) ?_
    refine wl_det rfl rfl rfl (op_lss rfl rfl) ?_
    refine wl_nil ?_
    refine st_tn ?_
    refine w_cond_d rfl (fun hc22 => ?_) (fun hc22 => ?_)
    · -- c22.t
      obtain ⟨x, hx⟩ := getE (l := l) (i := i) (by omega)
      have hlt := ltE hx
      have hlo : out.length ≤ 1048575 := by have := build_length (l.take i) []; rw [← ho, List.length_take] at this; simp at this; omega
      refine w_skip ?_
      refine st_tn ?_
      refine w_seq ?_
      refine w_block ?_
      refine w_region ?_
      refine wl_det rfl rfl rfl (op_move rfl) ?_
      refine wl_det rfl rfl rfl (op_move rfl) ?_
      refine wl_det rfl rfl rfl (op_move rfl) ?_
      refine wl_det rfl rfl rfl (op_idx rfl rfl tS22c (Sl.ent (by first | exact Sl.app (by assumption) _ | exact Sl.app (Sl.app (by assumption) _) _)) (by omega)) ?_
      refine wl_det rfl rfl rfl (op_ldx rfl tO9c (by first | exact Sl.app (by assumption) _ | exact Sl.app (Sl.app (by assumption) _) _) (by assumption) (by rfl)) ?_
      refine wl_op [4] rfl rfl rfl rfl (op_fn Try.func47 rfl rfl rfl (insert_any 4 30 _ (by omega))) ?_
      rintro _ _ ⟨a30, c30, rfl, rfl⟩
      refine wl_det rfl rfl rfl (op_assign rfl) ?_
      refine wl_nil ?_
      refine st_bn ?_
      refine st_tn ?_
      refine w_region ?_
      refine wl_det rfl rfl rfl (op_move rfl) ?_
      refine wl_det rfl rfl rfl (op_add' rfl rfl (by omega)) ?_
      refine wl_det rfl rfl rfl (op_assign rfl) ?_
      refine wl_nil ?_
      refine st_roundQ (x := (i, out, a_out, c_out)) ((i + 1, ins out x, _, _)) [30] rfl (rfl) (.cons rfl (.cons rfl (.nil _))) (.cons rfl (.nil _)) (by
          try dsimp only
          exact ⟨by omega, by rw [take_snoc hx, build_snoc, ho]⟩) (by
          try dsimp only
          omega) 
    · -- c22.f
      refine w_exit ?_
      refine st_te ?_
      refine st_te ?_
      refine st_be ?_
      refine st_tn ?_
      refine w_seq ?_
      refine w_seq ?_
      rw [take_all (by omega)] at ho
      have hlo : out.length ≤ 1048576 := by have := build_length l []; rw [← ho] at this; simp at this; omega
      refine w_region ?_
      refine wl_det rfl rfl rfl (op_move rfl) ?_
      refine wl_det rfl rfl rfl (op_lenT rfl tS22c (Sl.ent (Sl.lab 4 rfl (by unfold maxLen; omega)))) ?_
      refine wl_det rfl rfl rfl (op_gtr rfl rfl) ?_
      refine wl_nil ?_
      refine st_tn ?_
      refine w_cond_d rfl (fun hc33 => ?_) (fun hc33 => ?_)
      · -- c33.t
        refine w_seq ?_
        refine w_emp 78 (slO_nil 9 1) ?_
        refine w_region ?_
        refine wl_det rfl rfl rfl (op_assign rfl) ?_
        refine wl_det rfl rfl rfl (op_assign rfl) ?_
        refine wl_nil ?_
        refine st_tn ?_
        refine w_ret ?_
        refine st_tr ?_
        refine st_ret (vs := [_, _]) [78] Try.results16 ⟨rfl, ⟨rfl, trivial⟩⟩ rfl ?_
        refine ⟨[(lab, _)], rfl, ?_⟩
        obtain ⟨h1, h2⟩ := bld_many hn (by rw [← ho]; omega); exact ⟨none, 0, by rw [h1, h2]; rfl, by rw [h2]; rfl⟩
      · -- c33.f
        refine w_skip ?_
        refine st_tn ?_
        refine w_seq ?_
        refine w_region ?_
        refine wl_det rfl rfl rfl (op_move rfl) ?_
        refine wl_det rfl rfl rfl (op_assign rfl) ?_
        refine wl_det rfl rfl rfl (op_assign rfl) ?_
        refine wl_nil ?_
        refine st_tn ?_
        refine w_ret ?_
        refine st_ret (vs := [_, _]) [4] Try.results16 ⟨rfl, ⟨rfl, trivial⟩⟩ rfl ?_
        refine ⟨[(lab, _)], rfl, ?_⟩
        obtain ⟨h1, h2⟩ := bld_ok hn (by rw [← ho]; omega); rw [h1, h2, ← ho]; exact ⟨_, _, rfl, rfl⟩

set_option maxHeartbeats 1000000 in
set_option maxRecDepth 100000 in
theorem rmerge_any {σ : World} {F : List Res} {a b : Option Addr} {c d : Nat} {l m : List Bs} (lab : Nat) (h : Sl σ F encT 1 (.slice a l.length c) l) (g : Sl σ F encT 1 (.slice b m.length d) m) (hl : l.length ≤ 1048575) (hm : l.length + m.length ≤ 1048575) :
    FnT Try.prog σ F 28 [.slice a l.length c, .slice b m.length d] [] (NewT (build l m) lab) := by
  refine fn_of 23 Try.func28 rfl Try.ntmps28 rfl ?_
  have hle := h.i64
  have gle := g.i64
  refine w_seq ?_
  refine w_region ?_
  refine wl_det rfl rfl rfl (op_assign rfl) ?_
  refine wl_nil ?_
  refine st_tn ?_
  refine w_seq ?_
  refine w_region ?_
  refine wl_op [] rfl rfl rfl rfl (op_lit0 (enc := encT) (lab := 7) tS22c) ?_
  rintro _ _ ⟨a7, c7, rfl, rfl⟩
  refine wl_det rfl rfl rfl (op_move rfl) ?_
  refine wl_op [7] rfl rfl rfl rfl (op_append (lab := 7) (lab' := 9) rfl rfl tP22c enc1T (by first | exact Sl.app (by assumption) _ | exact Sl.app (Sl.app (by assumption) _) _) (by simp; omega) (by simp; omega)) ?_
  rintro _ _ ⟨a9, c9, rfl, rfl⟩
  refine wl_det rfl rfl rfl (op_assign rfl) ?_
  refine wl_nil ?_
  refine st_tn ?_
  refine w_seq ?_
  refine w_seq ?_
  refine w_region ?_
  refine wl_det rfl rfl rfl (op_assign rfl) ?_
  refine wl_nil ?_
  refine st_tn ?_
  refine w_block ?_
  refine w_loopQ (X := Nat × List (List UInt8) × Option Addr × Nat) (fun z => z.1 ≤ m.length ∧ z.2.1 = build l (m.take z.1)) (fun z => [(6, .int .i64 (z.1)), (5, .slice (z.2.2.1) (z.2.1).length (z.2.2.2))]) (fun z => [(9, slW 9 encT 1 (.slice (z.2.2.1) (z.2.1).length (z.2.2.2)) (z.2.1))]) (fun z => m.length - z.1) ((0, _, _, _)) [(1, _)] [] [9] rfl (rfl) (.cons rfl (.cons rfl (.nil _))) (.cons rfl (.nil _)) (by
      try dsimp only
      exact ⟨Nat.zero_le _, by simp [build]⟩) ?_
  rintro ⟨i, out, a_out, c_out⟩ ⟨hi, ho⟩
  refine w_norm2 (by dsimp only [List.cons_append, List.nil_append]) (by dsimp only [List.cons_append, List.nil_append]) ?_
  try dsimp only at hi ho ⊢
  refine w_seq ?_
  refine w_seq ?_
  refine w_region ?_
  refine wl_det rfl rfl rfl (op_move rfl) ?_
  refine wl_det rfl rfl rfl (op_move rfl) ?_
  refine wl_det rfl rfl rfl (op_lenT rfl tS22c (Sl.ent (by first | exact Sl.app (by assumption) _ | exact Sl.app (Sl.app (by assumption) _) _))) ?_
  refine wl_det rfl rfl rfl (op_lss rfl rfl) ?_
  refine wl_nil ?_
  refine st_tn ?_
  refine w_cond_d rfl (fun hc13 => ?_) (fun hc13 => ?_)
  · -- c13.t
    obtain ⟨x, hx⟩ := getE (l := m) (i := i) (by omega)
    have hlt := ltE hx
    have hlo : out.length ≤ 1048575 := by have := build_length (m.take i) l; rw [← ho, List.length_take] at this; omega
    refine w_skip ?_
    refine st_tn ?_
    refine w_seq ?_
    refine w_block ?_
    refine w_region ?_
    refine wl_det rfl rfl rfl (op_move rfl) ?_
    refine wl_det rfl rfl rfl (op_move rfl) ?_
    refine wl_det rfl rfl rfl (op_move rfl) ?_
    refine wl_det rfl rfl rfl (op_idx rfl rfl tS22c (Sl.ent (by first | exact Sl.app (by assumption) _ | exact Sl.app (Sl.app (by assumption) _) _)) (by omega)) ?_
    refine wl_det rfl rfl rfl (op_ldx rfl tO9c (by first | exact Sl.app (by assumption) _ | exact Sl.app (Sl.app (by assumption) _) _) (by assumption) (by rfl)) ?_
    refine wl_op [9] rfl rfl rfl rfl (op_fn Try.func47 rfl rfl rfl (insert_any 9 21 _ (by omega))) ?_
    rintro _ _ ⟨a21, c21, rfl, rfl⟩
    refine wl_det rfl rfl rfl (op_assign rfl) ?_
    refine wl_nil ?_
    refine st_bn ?_
    refine st_tn ?_
    refine w_region ?_
    refine wl_det rfl rfl rfl (op_move rfl) ?_
    refine wl_det rfl rfl rfl (op_add' rfl rfl (by omega)) ?_
    refine wl_det rfl rfl rfl (op_assign rfl) ?_
    refine wl_nil ?_
    refine st_roundQ (x := (i, out, a_out, c_out)) ((i + 1, ins out x, _, _)) [21] rfl (rfl) (.cons rfl (.cons rfl (.nil _))) (.cons rfl (.nil _)) (by
        try dsimp only
        exact ⟨by omega, by rw [take_snoc hx, build_snoc, ho]⟩) (by
        try dsimp only
        omega) 
  · -- c13.f
    refine w_exit ?_
    refine st_te ?_
    refine st_te ?_
    refine st_be ?_
    refine st_tn ?_
    refine w_seq ?_
    rw [take_all (by omega)] at ho
    refine w_region ?_
    refine wl_det rfl rfl rfl (op_move rfl) ?_
    refine wl_det rfl rfl rfl (op_assign rfl) ?_
    refine wl_nil ?_
    refine st_tn ?_
    refine w_ret ?_
    refine st_ret (vs := [_]) [9] Try.results28 ⟨rfl, trivial⟩ rfl ?_
    refine ⟨[(lab, _)], rfl, ?_⟩
    rw [← ho]; exact ⟨_, _, rfl, rfl⟩

/-- Codes of strings. -/
def codesE (d l : List Bs) : Int := if l.all (fun s => decide (d[lower d s]? = some s)) = true then 0 else 10
def codesL (d l : List Bs) : List Int := if codesE d l = 0 then l.map (fun s => (fk d s : Int)) else []
theorem codes_no {d l : List Bs} {s : Bs} {i : Nat} (hs : l[i]? = some s) (h : ¬ d[lower d s]? = some s) : codesE d l = 10 ∧ codesL d l = [] := by
  have : codesE d l = 10 := by
    unfold codesE; rw [if_neg]; intro h2; rw [List.all_eq_true] at h2
    have := h2 s (List.mem_of_getElem? hs); simp at this; exact h this
  exact ⟨this, by unfold codesL; rw [this]; rfl⟩
theorem codes_ok {d l : List Bs} (h : ∀ s ∈ l, d[lower d s]? = some s) : codesE d l = 0 ∧ codesL d l = l.map (fun s => (fk d s : Int)) := by
  have : codesE d l = 0 := by
    unfold codesE; rw [if_pos]; rw [List.all_eq_true]; intro s hs; simpa using h s hs
  exact ⟨this, by unfold codesL; rw [this]; rfl⟩
def NewZE (l : List Int) (e : Int) (lab : Nat) (u : Value) (ρ : RL) : Prop := ∃ a c, u = .tuple #[.slice a l.length c, .int .i64 e] ∧ ρ = [(lab, slW 3 encZ 1 (.slice a l.length c) l)]
def NewZ (l : List Int) (lab : Nat) (u : Value) (ρ : RL) : Prop := ∃ a c, u = .slice a l.length c ∧ ρ = [(lab, slW 3 encZ 1 (.slice a l.length c) l)]
set_option maxHeartbeats 1000000 in
set_option maxRecDepth 100000 in
theorem codes_any {σ : World} {F : List Res} {a b : Option Addr} {c e : Nat} {d l : List Bs} (lab : Nat) (h : Sl σ F encT 1 (.slice a d.length c) d) (g : Sl σ F encT 1 (.slice b l.length e) l) (hd : Inc d) (hl : d.length ≤ 1048576) (hm : l.length ≤ 1048576) :
    FnT Try.prog σ F 31 [.slice a d.length c, .slice b l.length e] [] (NewZE (codesL d l) (codesE d l) lab) := by
  refine fn_of 31 Try.func31 rfl Try.ntmps31 rfl ?_
  have hle := h.i64
  have gle := g.i64
  refine w_seq ?_
  refine w_region ?_
  refine wl_det rfl rfl rfl (op_assign rfl) ?_
  refine wl_det rfl rfl rfl (op_assign rfl) ?_
  refine wl_nil ?_
  refine st_tn ?_
  refine w_seq ?_
  refine w_region ?_
  refine wl_det rfl rfl rfl (op_assign rfl) ?_
  refine wl_nil ?_
  refine st_tn ?_
  refine w_seq ?_
  refine w_seq ?_
  refine w_region ?_
  refine wl_det rfl rfl rfl (op_move rfl) ?_
  refine wl_det rfl rfl rfl (op_lenT rfl tS22c (Sl.ent (by first | exact Sl.app (by assumption) _ | exact Sl.app (Sl.app (by assumption) _) _))) ?_
  refine wl_det rfl rfl rfl (op_move rfl) ?_
  refine wl_nil ?_
  refine st_tn ?_
  refine w_block ?_
  refine w_emp 6 (slO_nil 3 1) ?_
  refine w_loopQ (X := Nat × List Int × Option Addr × Nat) (fun z => z.1 ≤ l.length ∧ (∀ s ∈ l.take z.1, d[lower d s]? = some s) ∧ z.2.1 = (l.take z.1).map (fun s => (fk d s : Int))) (fun z => [(13, .int .i64 (z.1)), (6, .slice (z.2.2.1) (z.2.1).length (z.2.2.2))]) (fun z => [(6, slW 3 encZ 1 (.slice (z.2.2.1) (z.2.1).length (z.2.2.2)) (z.2.1))]) (fun z => l.length - z.1) ((0, [], none, 0)) [(0, _), (11, _), (12, _)] [] [6] rfl (rfl) (.cons rfl (.cons rfl (.nil _))) (.cons rfl (.cons rfl (.cons rfl (.nil _)))) (by
      try dsimp only
      exact ⟨Nat.zero_le _, by simp, by simp⟩) ?_
  rintro ⟨i, out, a_out, c_out⟩ ⟨hi, hn, ho⟩
  refine w_norm2 (by dsimp only [List.cons_append, List.nil_append]) (by dsimp only [List.cons_append, List.nil_append]) ?_
  try dsimp only at hi hn ho ⊢
  refine w_seq ?_
  refine w_region ?_
  refine wl_det rfl rfl rfl (op_lss rfl rfl) ?_
  refine wl_nil ?_
  refine st_tn ?_
  refine w_seq ?_
  refine w_cond_d rfl (fun hc14 => ?_) (fun hc14 => ?_)
  · -- c14.t
    obtain ⟨x, hx⟩ := getE (l := l) (i := i) (by omega)
    have hlt := ltE hx
    have hlo : out.length ≤ l.length := by rw [ho]; simp; omega
    refine w_skip ?_
    refine st_tn ?_
    refine w_seq ?_
    refine w_block ?_
    refine w_seq ?_
    refine w_region ?_
    refine wl_det rfl rfl rfl (op_idx rfl rfl tS22c (Sl.ent (by first | exact Sl.app (by assumption) _ | exact Sl.app (Sl.app (by assumption) _) _)) (by omega)) ?_
    refine wl_det rfl rfl rfl (op_ldx rfl tO9c (by first | exact Sl.app (by assumption) _ | exact Sl.app (Sl.app (by assumption) _) _) (by assumption) (by rfl)) ?_
    refine wl_det rfl rfl rfl (op_assign rfl) ?_
    refine wl_nil ?_
    refine st_tn ?_
    refine w_seq ?_
    refine w_region ?_
    refine wl_det rfl rfl rfl (op_move rfl) ?_
    refine wl_det rfl rfl rfl (op_move rfl) ?_
    refine wl_det rfl rfl rfl (op_fn Try.func22 rfl rfl rfl (find_any _ (by first | exact Sl.app (by assumption) _ | exact Sl.app (Sl.app (by assumption) _) _) (by assumption) (by omega))) ?_
    refine wl_det rfl rfl rfl (op_move rfl) ?_
    refine wl_det rfl rfl rfl (op_extract rfl rfl) ?_
    refine wl_det rfl rfl rfl (op_extract rfl rfl) ?_
    refine wl_det rfl rfl rfl (op_assign rfl) ?_
    refine wl_det rfl rfl rfl (op_assign rfl) ?_
    refine wl_nil ?_
    refine st_tn ?_
    refine w_seq ?_
    refine w_seq ?_
    refine w_region ?_
    refine wl_det rfl rfl rfl (op_move rfl) ?_
    refine wl_det rfl rfl rfl (op_not_d rfl) ?_
    refine wl_nil ?_
    refine st_tn ?_
    refine w_cond_d rfl (fun hc24 => ?_) (fun hc24 => ?_)
    · -- c24.t
      refine w_seq ?_
      refine w_emp 77 (slO_nil 3 1) ?_
      refine w_region ?_
      refine wl_det rfl rfl rfl (op_assign rfl) ?_
      refine wl_det rfl rfl rfl (op_assign rfl) ?_
      refine wl_nil ?_
      refine st_tn ?_
      refine w_ret ?_
      refine st_tr ?_
      refine st_br ?_
      refine st_tr ?_
      refine st_tr ?_
      refine st_br ?_
      refine st_tr ?_
      refine st_ret (vs := [_, _]) [77] Try.results31 ⟨rfl, ⟨rfl, trivial⟩⟩ rfl ?_
      refine ⟨[(lab, _)], rfl, ?_⟩
      obtain ⟨h1, h2⟩ := codes_no hx hc24; exact ⟨none, 0, by rw [h1, h2]; rfl, by rw [h2]; rfl⟩
    · -- c24.f
      refine w_skip ?_
      refine st_tn ?_
      refine w_region ?_
      refine wl_det rfl rfl rfl (op_move rfl) ?_
      refine wl_det rfl rfl rfl (op_move rfl) ?_
      refine wl_op [] rfl rfl rfl rfl (op_buildSlice (enc := encZ) (l := [_]) (lab := 27) tL31_1c rfl rfl (fun _ => rfl) rfl) ?_
      rintro _ _ ⟨a27, c27, rfl, rfl⟩
      refine wl_op [6] rfl rfl rfl rfl (op_append (lab := 6) (lab' := 28) rfl rfl tP31c enc1Z (Sl.lab 27 rfl (by simp [maxLen])) (by simp; omega) (by simp; omega)) ?_
      rintro _ _ ⟨a28, c28, rfl, rfl⟩
      refine wl_det rfl rfl rfl (op_assign rfl) ?_
      refine wl_nil ?_
      refine st_bn ?_
      refine st_tn ?_
      refine w_region ?_
      refine wl_det rfl rfl rfl (op_add' rfl rfl (by omega)) ?_
      refine wl_det rfl rfl rfl (op_move rfl) ?_
      refine wl_nil ?_
      refine st_roundQ (x := (i, out, a_out, c_out)) ((i + 1, _, _, _)) [28] rfl (rfl) (.cons rfl (.cons rfl (.nil _))) (.cons rfl (.cons rfl (.cons rfl (.nil _)))) (by
          try dsimp only
          exact ⟨by omega, by rw [take_snoc hx]; intro s hs; rcases List.mem_append.1 hs with hs | hs; (· exact hn s hs); (· simp at hs; subst hs; exact Classical.not_not.1 hc24), by rw [take_snoc hx, List.map_append, ho]; rfl⟩) (by
          try dsimp only
          omega) 
  · -- c14.f
    refine w_exit ?_
    refine st_te ?_
    refine st_te ?_
    refine st_be ?_
    refine st_tn ?_
    refine w_seq ?_
    rw [take_all (by omega)] at hn ho
    refine w_region ?_
    refine wl_det rfl rfl rfl (op_move rfl) ?_
    refine wl_det rfl rfl rfl (op_assign rfl) ?_
    refine wl_det rfl rfl rfl (op_assign rfl) ?_
    refine wl_nil ?_
    refine st_tn ?_
    refine w_ret ?_
    refine st_ret (vs := [_, _]) [6] Try.results31 ⟨rfl, ⟨rfl, trivial⟩⟩ rfl ?_
    refine ⟨[(lab, _)], rfl, ?_⟩
    obtain ⟨h1, h2⟩ := codes_ok hn; rw [h1, h2, ← ho]; exact ⟨_, _, rfl, rfl⟩

set_option maxHeartbeats 1000000 in
set_option maxRecDepth 100000 in
theorem rcodes_any {σ : World} {F : List Res} {a b : Option Addr} {c e : Nat} {d l : List Bs} (lab : Nat) (h : Sl σ F encT 1 (.slice a d.length c) d) (g : Sl σ F encT 1 (.slice b l.length e) l) (hm : l.length ≤ 1048576) :
    FnT Try.prog σ F 32 [.slice a d.length c, .slice b l.length e] [] (NewZE (codesL d l) (codesE d l) lab) := by
  refine fn_of 32 Try.func32 rfl Try.ntmps32 rfl ?_
  have hle := h.i64
  have gle := g.i64
  refine w_seq ?_
  refine w_region ?_
  refine wl_det rfl rfl rfl (op_assign rfl) ?_
  refine wl_det rfl rfl rfl (op_assign rfl) ?_
  refine wl_nil ?_
  refine st_tn ?_
  refine w_seq ?_
  refine w_region ?_
  refine wl_det rfl rfl rfl (op_assign rfl) ?_
  refine wl_nil ?_
  refine st_tn ?_
  refine w_seq ?_
  refine w_seq ?_
  refine w_region ?_
  refine wl_det rfl rfl rfl (op_assign rfl) ?_
  refine wl_nil ?_
  refine st_tn ?_
  refine w_block ?_
  refine w_emp 6 (slO_nil 3 1) ?_
  refine w_loopQ (X := Nat × List Int × Option Addr × Nat) (fun z => z.1 ≤ l.length ∧ (∀ s ∈ l.take z.1, d[lower d s]? = some s) ∧ z.2.1 = (l.take z.1).map (fun s => (fk d s : Int))) (fun z => [(7, .int .i64 (z.1)), (6, .slice (z.2.2.1) (z.2.1).length (z.2.2.2))]) (fun z => [(6, slW 3 encZ 1 (.slice (z.2.2.1) (z.2.1).length (z.2.2.2)) (z.2.1))]) (fun z => l.length - z.1) ((0, [], none, 0)) [(0, _), (1, _)] [] [6] rfl (rfl) (.cons rfl (.cons rfl (.nil _))) (.cons rfl (.cons rfl (.nil _))) (by
      try dsimp only
      exact ⟨Nat.zero_le _, by simp, by simp⟩) ?_
  rintro ⟨i, out, a_out, c_out⟩ ⟨hi, hn, ho⟩
  refine w_norm2 (by dsimp only [List.cons_append, List.nil_append]) (by dsimp only [List.cons_append, List.nil_append]) ?_
  try dsimp only at hi hn ho ⊢
  refine w_seq ?_
  refine w_seq ?_
  refine w_region ?_
  refine wl_det rfl rfl rfl (op_move rfl) ?_
  refine wl_det rfl rfl rfl (op_move rfl) ?_
  refine wl_det rfl rfl rfl (op_lenT rfl tS22c (Sl.ent (by first | exact Sl.app (by assumption) _ | exact Sl.app (Sl.app (by assumption) _) _))) ?_
  refine wl_det rfl rfl rfl (op_lss rfl rfl) ?_
  refine wl_nil ?_
  refine st_tn ?_
  refine w_cond_d rfl (fun hc13 => ?_) (fun hc13 => ?_)
  · -- c13.t
    obtain ⟨x, hx⟩ := getE (l := l) (i := i) (by omega)
    have hlt := ltE hx
    have hlo : out.length ≤ l.length := by rw [ho]; simp; omega
    refine w_skip ?_
    refine st_tn ?_
    refine w_seq ?_
    refine w_block ?_
    refine w_seq ?_
    refine w_region ?_
    refine wl_det rfl rfl rfl (op_move rfl) ?_
    refine wl_det rfl rfl rfl (op_move rfl) ?_
    refine wl_det rfl rfl rfl (op_move rfl) ?_
    refine wl_det rfl rfl rfl (op_idx rfl rfl tS22c (Sl.ent (by first | exact Sl.app (by assumption) _ | exact Sl.app (Sl.app (by assumption) _) _)) (by omega)) ?_
    refine wl_det rfl rfl rfl (op_ldx rfl tO9c (by first | exact Sl.app (by assumption) _ | exact Sl.app (Sl.app (by assumption) _) _) (by assumption) (by rfl)) ?_
    refine wl_det rfl rfl rfl (op_fn Try.func23 rfl rfl rfl (rfind_any _ (by first | exact Sl.app (by assumption) _ | exact Sl.app (Sl.app (by assumption) _) _))) ?_
    refine wl_det rfl rfl rfl (op_move rfl) ?_
    refine wl_det rfl rfl rfl (op_extract rfl rfl) ?_
    refine wl_det rfl rfl rfl (op_extract rfl rfl) ?_
    refine wl_det rfl rfl rfl (op_assign rfl) ?_
    refine wl_det rfl rfl rfl (op_assign rfl) ?_
    refine wl_nil ?_
    refine st_tn ?_
    refine w_seq ?_
    refine w_seq ?_
    refine w_region ?_
    refine wl_det rfl rfl rfl (op_move rfl) ?_
    refine wl_det rfl rfl rfl (op_not_d rfl) ?_
    refine wl_nil ?_
    refine st_tn ?_
    refine w_cond_d rfl (fun hc26 => ?_) (fun hc26 => ?_)
    · -- c26.t
      refine w_seq ?_
      refine w_emp 77 (slO_nil 3 1) ?_
      refine w_region ?_
      refine wl_det rfl rfl rfl (op_assign rfl) ?_
      refine wl_det rfl rfl rfl (op_assign rfl) ?_
      refine wl_nil ?_
      refine st_tn ?_
      refine w_ret ?_
      refine st_tr ?_
      refine st_br ?_
      refine st_tr ?_
      refine st_tr ?_
      refine st_br ?_
      refine st_tr ?_
      refine st_ret (vs := [_, _]) [77] Try.results32 ⟨rfl, ⟨rfl, trivial⟩⟩ rfl ?_
      refine ⟨[(lab, _)], rfl, ?_⟩
      obtain ⟨h1, h2⟩ := codes_no hx hc26; exact ⟨none, 0, by rw [h1, h2]; rfl, by rw [h2]; rfl⟩
    · -- c26.f
      refine w_skip ?_
      refine st_tn ?_
      refine w_region ?_
      refine wl_det rfl rfl rfl (op_move rfl) ?_
      refine wl_det rfl rfl rfl (op_move rfl) ?_
      refine wl_op [] rfl rfl rfl rfl (op_buildSlice (enc := encZ) (l := [_]) (lab := 29) tL31_1c rfl rfl (fun _ => rfl) rfl) ?_
      rintro _ _ ⟨a29, c29, rfl, rfl⟩
      refine wl_op [6] rfl rfl rfl rfl (op_append (lab := 6) (lab' := 30) rfl rfl tP31c enc1Z (Sl.lab 29 rfl (by simp [maxLen])) (by simp; omega) (by simp; omega)) ?_
      rintro _ _ ⟨a30, c30, rfl, rfl⟩
      refine wl_det rfl rfl rfl (op_assign rfl) ?_
      refine wl_nil ?_
      refine st_bn ?_
      refine st_tn ?_
      refine w_region ?_
      refine wl_det rfl rfl rfl (op_move rfl) ?_
      refine wl_det rfl rfl rfl (op_add' rfl rfl (by omega)) ?_
      refine wl_det rfl rfl rfl (op_assign rfl) ?_
      refine wl_nil ?_
      refine st_roundQ (x := (i, out, a_out, c_out)) ((i + 1, _, _, _)) [30] rfl (rfl) (.cons rfl (.cons rfl (.nil _))) (.cons rfl (.cons rfl (.nil _))) (by
          try dsimp only
          exact ⟨by omega, by rw [take_snoc hx]; intro s hs; rcases List.mem_append.1 hs with hs | hs; (· exact hn s hs); (· simp at hs; subst hs; exact Classical.not_not.1 hc26), by rw [take_snoc hx, List.map_append, ho]; rfl⟩) (by
          try dsimp only
          omega) 
  · -- c13.f
    refine w_exit ?_
    refine st_te ?_
    refine st_te ?_
    refine st_be ?_
    refine st_tn ?_
    refine w_seq ?_
    rw [take_all (by omega)] at hn ho
    refine w_region ?_
    refine wl_det rfl rfl rfl (op_move rfl) ?_
    refine wl_det rfl rfl rfl (op_assign rfl) ?_
    refine wl_det rfl rfl rfl (op_assign rfl) ?_
    refine wl_nil ?_
    refine st_tn ?_
    refine w_ret ?_
    refine st_ret (vs := [_, _]) [6] Try.results32 ⟨rfl, ⟨rfl, trivial⟩⟩ rfl ?_
    refine ⟨[(lab, _)], rfl, ?_⟩
    obtain ⟨h1, h2⟩ := codes_ok hn; rw [h1, h2, ← ho]; exact ⟨_, _, rfl, rfl⟩

/-- The remap of a dictionary. -/
def fromL (d t : List Bs) : List Int := d.map fun s => if t[lower t s]? = some s then (fk t s : Int) else -1
set_option maxHeartbeats 1000000 in
set_option maxRecDepth 100000 in
theorem from_any {σ : World} {F : List Res} {a b : Option Addr} {c e : Nat} {d l : List Bs} (lab : Nat) (h : Sl σ F encT 1 (.slice a d.length c) d) (g : Sl σ F encT 1 (.slice b l.length e) l) (hm : d.length ≤ 1048576) :
    FnT Try.prog σ F 30 [.slice a d.length c, .slice b l.length e] [] (NewZ (fromL d l) lab) := by
  refine fn_of 31 Try.func30 rfl Try.ntmps30 rfl ?_
  have hle := h.i64
  have gle := g.i64
  refine w_seq ?_
  refine w_region ?_
  refine wl_det rfl rfl rfl (op_assign rfl) ?_
  refine wl_nil ?_
  refine st_tn ?_
  refine w_seq ?_
  refine w_region ?_
  refine wl_det rfl rfl rfl (op_assign rfl) ?_
  refine wl_nil ?_
  refine st_tn ?_
  refine w_seq ?_
  refine w_seq ?_
  refine w_region ?_
  refine wl_det rfl rfl rfl (op_assign rfl) ?_
  refine wl_nil ?_
  refine st_tn ?_
  refine w_block ?_
  refine w_emp 5 (slO_nil 3 1) ?_
  refine w_loopQ (X := Nat × List Int × Option Addr × Nat) (fun z => z.1 ≤ d.length ∧ z.2.1 = fromL (d.take z.1) l) (fun z => [(6, .int .i64 (z.1)), (5, .slice (z.2.2.1) (z.2.1).length (z.2.2.2))]) (fun z => [(5, slW 3 encZ 1 (.slice (z.2.2.1) (z.2.1).length (z.2.2.2)) (z.2.1))]) (fun z => d.length - z.1) ((0, [], none, 0)) [(0, _), (1, _)] [] [5] rfl (rfl) (.cons rfl (.cons rfl (.nil _))) (.cons rfl (.cons rfl (.nil _))) (by
      try dsimp only
      exact ⟨Nat.zero_le _, by simp [fromL]⟩) ?_
  rintro ⟨i, out, a_out, c_out⟩ ⟨hi, ho⟩
  refine w_norm2 (by dsimp only [List.cons_append, List.nil_append]) (by dsimp only [List.cons_append, List.nil_append]) ?_
  try dsimp only at hi ho ⊢
  refine w_seq ?_
  refine w_seq ?_
  refine w_region ?_
  refine wl_det rfl rfl rfl (op_move rfl) ?_
  refine wl_det rfl rfl rfl (op_move rfl) ?_
  refine wl_det rfl rfl rfl (op_lenT rfl tS22c (Sl.ent (by first | exact Sl.app (by assumption) _ | exact Sl.app (Sl.app (by assumption) _) _))) ?_
  refine wl_det rfl rfl rfl (op_lss rfl rfl) ?_
  refine wl_nil ?_
  refine st_tn ?_
  refine w_cond_d rfl (fun hc12 => ?_) (fun hc12 => ?_)
  · -- c12.t
    obtain ⟨x, hx⟩ := getE (l := d) (i := i) (by omega)
    have hlt := ltE hx
    have hlo : out.length ≤ d.length := by rw [ho]; simp [fromL]; omega
    refine w_skip ?_
    refine st_tn ?_
    refine w_seq ?_
    refine w_block ?_
    refine w_seq ?_
    refine w_region ?_
    refine wl_det rfl rfl rfl (op_move rfl) ?_
    refine wl_det rfl rfl rfl (op_move rfl) ?_
    refine wl_det rfl rfl rfl (op_move rfl) ?_
    refine wl_det rfl rfl rfl (op_idx rfl rfl tS22c (Sl.ent (by first | exact Sl.app (by assumption) _ | exact Sl.app (Sl.app (by assumption) _) _)) (by omega)) ?_
    refine wl_det rfl rfl rfl (op_ldx rfl tO9c (by first | exact Sl.app (by assumption) _ | exact Sl.app (Sl.app (by assumption) _) _) (by assumption) (by rfl)) ?_
    refine wl_det rfl rfl rfl (op_fn Try.func23 rfl rfl rfl (rfind_any _ (by first | exact Sl.app (by assumption) _ | exact Sl.app (Sl.app (by assumption) _) _))) ?_
    refine wl_det rfl rfl rfl (op_move rfl) ?_
    refine wl_det rfl rfl rfl (op_extract rfl rfl) ?_
    refine wl_det rfl rfl rfl (op_extract rfl rfl) ?_
    refine wl_det rfl rfl rfl (op_assign rfl) ?_
    refine wl_det rfl rfl rfl (op_assign rfl) ?_
    refine wl_nil ?_
    refine st_tn ?_
    refine w_seq ?_
    refine w_seq ?_
    refine w_region ?_
    refine wl_det rfl rfl rfl (op_move rfl) ?_
    refine wl_det rfl rfl rfl (op_not_d rfl) ?_
    refine wl_nil ?_
    refine st_tn ?_
    refine w_cond_d rfl (fun hc25 => ?_) (fun hc25 => ?_)
    · -- c25.t
      refine w_region ?_
      refine wl_det rfl rfl rfl (op_assign rfl) ?_
      refine wl_nil ?_
      refine st_tn ?_
      refine w_region ?_
      refine wl_det rfl rfl rfl (op_move rfl) ?_
      refine wl_det rfl rfl rfl (op_move rfl) ?_
      refine wl_op [] rfl rfl rfl rfl (op_buildSlice (enc := encZ) (l := [_]) (lab := 28) tL31_1c rfl rfl (fun _ => rfl) rfl) ?_
      rintro _ _ ⟨a28, c28, rfl, rfl⟩
      refine wl_op [5] rfl rfl rfl rfl (op_append (lab := 5) (lab' := 29) rfl rfl tP31c enc1Z (Sl.lab 28 rfl (by simp [maxLen])) (by simp; omega) (by simp; omega)) ?_
      rintro _ _ ⟨a29, c29, rfl, rfl⟩
      refine wl_det rfl rfl rfl (op_assign rfl) ?_
      refine wl_nil ?_
      refine st_bn ?_
      refine st_tn ?_
      refine w_region ?_
      refine wl_det rfl rfl rfl (op_move rfl) ?_
      refine wl_det rfl rfl rfl (op_add' rfl rfl (by omega)) ?_
      refine wl_det rfl rfl rfl (op_assign rfl) ?_
      refine wl_nil ?_
      refine st_roundQ (x := (i, out, a_out, c_out)) ((i + 1, _, _, _)) [29] rfl (rfl) (.cons rfl (.cons rfl (.nil _))) (.cons rfl (.cons rfl (.nil _))) (by
          try dsimp only
          exact ⟨by omega, by rw [take_snoc hx, ho]; unfold fromL; rw [List.map_append, List.map_cons, if_neg hc25]; rfl⟩) (by
          try dsimp only
          omega) 
    · -- c25.f
      refine w_skip ?_
      refine st_tn ?_
      refine w_region ?_
      refine wl_det rfl rfl rfl (op_move rfl) ?_
      refine wl_det rfl rfl rfl (op_move rfl) ?_
      refine wl_op [] rfl rfl rfl rfl (op_buildSlice (enc := encZ) (l := [_]) (lab := 28) tL31_1c rfl rfl (fun _ => rfl) rfl) ?_
      rintro _ _ ⟨a28, c28, rfl, rfl⟩
      refine wl_op [5] rfl rfl rfl rfl (op_append (lab := 5) (lab' := 29) rfl rfl tP31c enc1Z (Sl.lab 28 rfl (by simp [maxLen])) (by simp; omega) (by simp; omega)) ?_
      rintro _ _ ⟨a29, c29, rfl, rfl⟩
      refine wl_det rfl rfl rfl (op_assign rfl) ?_
      refine wl_nil ?_
      refine st_bn ?_
      refine st_tn ?_
      refine w_region ?_
      refine wl_det rfl rfl rfl (op_move rfl) ?_
      refine wl_det rfl rfl rfl (op_add' rfl rfl (by omega)) ?_
      refine wl_det rfl rfl rfl (op_assign rfl) ?_
      refine wl_nil ?_
      refine st_roundQ (x := (i, out, a_out, c_out)) ((i + 1, _, _, _)) [29] rfl (rfl) (.cons rfl (.cons rfl (.nil _))) (.cons rfl (.cons rfl (.nil _))) (by
          try dsimp only
          exact ⟨by omega, by rw [take_snoc hx, ho]; unfold fromL; rw [List.map_append, List.map_cons, if_pos (Classical.not_not.1 hc25)]; rfl⟩) (by
          try dsimp only
          omega) 
  · -- c12.f
    refine w_exit ?_
    refine st_te ?_
    refine st_te ?_
    refine st_be ?_
    refine st_tn ?_
    refine w_seq ?_
    rw [take_all (by omega)] at ho
    refine w_region ?_
    refine wl_det rfl rfl rfl (op_move rfl) ?_
    refine wl_det rfl rfl rfl (op_assign rfl) ?_
    refine wl_nil ?_
    refine st_tn ?_
    refine w_ret ?_
    refine st_ret (vs := [_]) [5] Try.results30 ⟨rfl, trivial⟩ rfl ?_
    refine ⟨[(lab, _)], rfl, ?_⟩
    rw [← ho]; exact ⟨_, _, rfl, rfl⟩

end Go.Proofs.Ytbpihhaiechnbaa
