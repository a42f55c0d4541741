/- Contracts: lists of numbers; assignments; what is known of two nodes; distances; solutions (layer 9). Conditions: none. -/
import Derived.Test.YtgdjnjbipemdcaaK4
namespace Go.Proofs.Ytgdjnjbipemdcaa
open Go Go.SL Go.RowKit Go.ConM
set_option linter.unusedVariables false
set_option linter.unusedSimpArgs false
theorem tB49e : placesB Try.prog 49 = some ([(0, 1), (1, 1)], [Value.int .i64 0, Value.int .i64 0]) := by kernel_rfl
theorem tL45_1e : zerosB Try.prog 45 49 2 1 = some [Value.int .i64 0, Value.int .i64 0] := by kernel_rfl
theorem tN3e : (Try.prog.info? 3).bind (·.zero) = some (Value.int .i64 0) := by kernel_rfl
theorem tO3e : oneB Try.prog 3 = true := by kernel_rfl
theorem tP45e : appB Try.prog 45 49 2 16 = true := by kernel_rfl
theorem tQ72e : mapB Try.prog 72 3 3 KZ.desc := ⟨Try.underlying72, Try.underlying3⟩
theorem tS26e : sliceB Try.prog 26 3 1 = true := by kernel_rfl

def encO (p : Int × Int) : List Value := [.int .i64 p.1, .int .i64 p.2]
theorem enc1O : Enc1 encO 2 := ⟨fun _ => rfl, fun a u h => by simp [encO] at h; rcases h with rfl | rfl <;> rfl⟩
theorem sort_any {σ : World} {F : List Res} {l : List Int} {a : Option Addr} {c : Nat} (lab : Nat) (hl : l.length < 4611686018427387904) :
    FnT Try.prog σ F 54 [.slice a l.length c] [(lab, slW 3 SL.encZ 1 (.slice a l.length c) l)] (fun u ρ => u = .tuple #[] ∧ ρ = [(lab, slW 3 SL.encZ 1 (.slice a l.length c) (srt l))]) :=
  fn_sort (enc0 := Value.int .i64) (enc := SL.encZ) (fun _ => rfl) length_srt (fun g cap l w hH hg hl => Try.slices_Sort_int g 0 cap l w hH hg hl) (fun a cap w => Try.slices_Sort_int_none a cap w) lab hl
set_option maxHeartbeats 400000 in
set_option maxRecDepth 100000 in
theorem index_any {σ : World} {F : List Res} {a : Option Addr} {c : Nat} {l : List Int} (x : Int) (h : Sl σ F SL.encZ 1 (.slice a l.length c) l) :
    FnT Try.prog σ F 46 [.slice a l.length c, .int .i64 x] [] (fun u ρ => u = .int .i64 (match l.findIdx? (fun y => decide (y = x)) with | some i => (i : Int) | none => -1) ∧ ρ = []) := by
  refine fn_of 19 Try.func46 rfl Try.ntmps46 rfl ?_
  have hle := h.i64
  refine w_seq ?_
  refine w_region ?_
  refine wl_det rfl rfl rfl (op_assign rfl) ?_
  refine wl_nil ?_
  refine st_tn ?_
  refine w_seq ?_
  refine w_seq ?_
  refine w_region ?_
  refine wl_det rfl rfl rfl (op_move rfl) ?_
  refine wl_det rfl rfl rfl (op_lenT rfl tS26e (Sl.ent (by first | exact Sl.app (by assumption) _ | exact Sl.app (Sl.app (by assumption) _) _))) ?_
  refine wl_det rfl rfl rfl (op_move rfl) ?_
  refine wl_nil ?_
  refine st_tn ?_
  refine w_block ?_
  refine w_loopQ (X := Nat) (fun z => z ≤ l.length ∧ ∀ r ∈ l.take z, r ≠ x) (fun z => [(8, .int .i64 (z))]) (fun _ => []) (fun z => l.length - z) (0) [(0, _), (1, _), (7, _)] [] [] rfl (rfl) (.cons rfl (.nil _)) (.cons rfl (.cons rfl (.cons rfl (.nil _)))) (by
      try dsimp only
      exact ⟨Nat.zero_le _, by simp⟩) ?_
  rintro i ⟨hi, hn⟩
  refine w_norm2 (by dsimp only [List.cons_append, List.nil_append]) (by dsimp only [List.cons_append, List.nil_append]) ?_
  try dsimp only at hi hn ⊢
  refine w_seq ?_
  refine w_region ?_
  refine wl_det rfl rfl rfl (op_lss rfl rfl) ?_
  refine wl_nil ?_
  refine st_tn ?_
  refine w_seq ?_
  refine w_cond_d rfl (fun hc9 => ?_) (fun hc9 => ?_)
  · -- c9.t
    obtain ⟨r, hr⟩ := getE (l := l) (i := i) (by omega)
    have hlt := ltE hr
    refine w_skip ?_
    refine st_tn ?_
    refine w_seq ?_
    refine w_block ?_
    refine w_seq ?_
    refine w_region ?_
    refine wl_det rfl rfl rfl (op_move rfl) ?_
    refine wl_det rfl rfl rfl (op_assign rfl) ?_
    refine wl_nil ?_
    refine st_tn ?_
    refine w_seq ?_
    refine w_region ?_
    refine wl_det rfl rfl rfl (op_move rfl) ?_
    refine wl_det rfl rfl rfl (op_move rfl) ?_
    refine wl_det rfl rfl rfl (op_move rfl) ?_
    refine wl_det rfl rfl rfl (op_idx rfl rfl tS26e (Sl.ent (by first | exact Sl.app (by assumption) _ | exact Sl.app (Sl.app (by assumption) _) _)) (by omega)) ?_
    refine wl_det rfl rfl rfl (op_ldx rfl tO3e (by first | exact Sl.app (by assumption) _ | exact Sl.app (Sl.app (by assumption) _) _) (by assumption) (by rfl)) ?_
    refine wl_det rfl rfl rfl (op_eql rfl rfl) ?_
    refine wl_nil ?_
    refine st_tn ?_
    refine w_cond_d rfl (fun hc16 => ?_) (fun hc16 => ?_)
    · -- c16.t
      refine w_seq ?_
      refine w_region ?_
      refine wl_det rfl rfl rfl (op_move rfl) ?_
      refine wl_det rfl rfl rfl (op_assign rfl) ?_
      refine wl_nil ?_
      refine st_tn ?_
      refine w_ret ?_
      refine st_br ?_
      refine st_tr ?_
      refine st_tr ?_
      refine st_br ?_
      refine st_tr ?_
      refine st_ret (vs := [_]) [] Try.results46 ⟨rfl, trivial⟩ rfl ?_
      refine ⟨_, rfl, ?_⟩
      refine ⟨?_, rfl⟩
      have : l.findIdx? (fun y => decide (y = x)) = some i := by
        rw [List.findIdx?_eq_some_iff_getElem]
        obtain ⟨hlt', hge⟩ := List.getElem?_eq_some_iff.1 hr
        refine ⟨hlt', by rw [hge]; simp; omega, fun j hj => ?_⟩
        have := hn _ (List.mem_take_iff_getElem.2 ⟨j, by omega, rfl⟩)
        simpa using this
      rw [this]; rfl
    · -- c16.f
      refine w_skip ?_
      refine st_bn ?_
      refine st_tn ?_
      refine w_region ?_
      refine wl_det rfl rfl rfl (op_add' rfl rfl (by omega)) ?_
      refine wl_det rfl rfl rfl (op_move rfl) ?_
      refine wl_nil ?_
      refine st_roundQ (x := i) (i + 1) [] rfl (rfl) (.cons rfl (.nil _)) (.cons rfl (.cons rfl (.cons rfl (.nil _)))) (by
          try dsimp only
          refine ⟨by omega, by rw [take_snoc hr]; intro q hq; rcases List.mem_append.1 hq with hq | hq; (· exact hn q hq); (· simp at hq; subst hq; omega)⟩) (by
          try dsimp only
          omega) 
  · -- c9.f
    refine w_exit ?_
    refine st_te ?_
    refine st_te ?_
    refine st_be ?_
    refine st_tn ?_
    refine w_seq ?_
    refine w_region ?_
    refine wl_det rfl rfl rfl (op_assign rfl) ?_
    refine wl_nil ?_
    refine st_tn ?_
    refine w_ret ?_
    refine st_ret (vs := [_]) [] Try.results46 ⟨rfl, trivial⟩ rfl ?_
    refine ⟨_, rfl, ?_⟩
    refine ⟨?_, rfl⟩; rw [take_all (by omega)] at hn
    have : l.findIdx? (fun y => decide (y = x)) = none := by rw [List.findIdx?_eq_none_iff]; intro y hy; simpa using hn y hy
    rw [this]; rfl

set_option maxHeartbeats 400000 in
set_option maxRecDepth 100000 in
theorem contains_any {σ : World} {F : List Res} {a : Option Addr} {c : Nat} {l : List Int} (x : Int) (h : Sl σ F SL.encZ 1 (.slice a l.length c) l) :
    FnT Try.prog σ F 67 [.slice a l.length c, .int .i64 x] [] (fun u ρ => u = .bool (decide (x ∈ l)) ∧ ρ = []) := by
  refine fn_of 9 Try.func67 rfl Try.ntmps67 rfl ?_
  refine w_seq ?_
  refine w_region ?_
  refine wl_det rfl rfl rfl (op_assign rfl) ?_
  refine wl_nil ?_
  refine st_tn ?_
  refine w_seq ?_
  refine w_region ?_
  refine wl_det rfl rfl rfl (op_move rfl) ?_
  refine wl_det rfl rfl rfl (op_move rfl) ?_
  refine wl_det rfl rfl rfl (op_fn Try.func46 rfl rfl rfl (index_any _ (by first | exact Sl.app (by assumption) _ | exact Sl.app (Sl.app (by assumption) _) _))) ?_
  refine wl_det rfl rfl rfl (op_geq rfl rfl) ?_
  refine wl_det rfl rfl rfl (op_assign rfl) ?_
  refine wl_nil ?_
  refine st_tn ?_
  refine w_ret ?_
  refine st_ret (vs := [_]) [] Try.results67 ⟨rfl, trivial⟩ rfl ?_
  refine ⟨_, rfl, ?_⟩
  refine ⟨?_, rfl⟩
  simp only [retv]; congr 1
  cases hf : l.findIdx? (fun y => decide (y = x)) with
  | none =>
    rw [List.findIdx?_eq_none_iff] at hf
    have : ¬ x ∈ l := fun h => by have := hf x h; simp at this
    simp [this]
  | some i =>
    obtain ⟨hlt, h1, _⟩ := List.findIdx?_eq_some_iff_getElem.1 hf
    have : x ∈ l := by simp at h1; rw [← h1]; exact List.getElem_mem hlt
    simp [this]

/-- The least number of a list. -/
def minL (l : List Int) : Int := l.tail.foldl min (l.headD 0)
set_option maxHeartbeats 400000 in
set_option maxRecDepth 100000 in
theorem min_any {σ : World} {F : List Res} {a : Option Addr} {c : Nat} {l : List Int} (h : Sl σ F SL.encZ 1 (.slice a l.length c) l) (h0 : 0 < l.length) (hl : l.length ≤ 1048576) :
    FnT Try.prog σ F 47 [.slice a l.length c] [] (fun u ρ => u = .int .i64 (minL l) ∧ ρ = []) := by
  refine fn_of 25 Try.func47 rfl Try.ntmps47 rfl ?_
  have hle := h.i64
  obtain ⟨x, t, rfl⟩ : ∃ x t, l = x :: t := by cases l with | nil => simp at h0 | cons x t => exact ⟨x, t, rfl⟩
  have hx0 : (x :: t)[0]? = some x := rfl
  refine w_seq ?_
  refine w_region ?_
  refine wl_det rfl rfl rfl (op_assign rfl) ?_
  refine wl_nil ?_
  refine st_tn ?_
  refine w_seq ?_
  refine w_seq ?_
  refine w_region ?_
  refine wl_det rfl rfl rfl (op_move rfl) ?_
  refine wl_det rfl rfl rfl (op_lenT rfl tS26e (Sl.ent (by first | exact Sl.app (by assumption) _ | exact Sl.app (Sl.app (by assumption) _) _))) ?_
  refine wl_det rfl rfl rfl (op_lss rfl rfl) ?_
  refine wl_nil ?_
  refine st_tn ?_
  refine w_cond_d rfl (fun hc7 => ?_) (fun hc7 => ?_)
  · -- c7.t
    omega
  · -- c7.f
    refine w_skip ?_
    refine st_tn ?_
    refine w_seq ?_
    refine w_region ?_
    refine wl_det rfl rfl rfl (op_move rfl) ?_
    refine wl_det rfl rfl rfl (op_idx rfl rfl tS26e (Sl.ent (by first | exact Sl.app (by assumption) _ | exact Sl.app (Sl.app (by assumption) _) _)) (by omega)) ?_
    refine wl_det rfl rfl rfl (op_ldx rfl tO3e (by first | exact Sl.app (by assumption) _ | exact Sl.app (Sl.app (by assumption) _) _) (by assumption) (by rfl)) ?_
    refine wl_det rfl rfl rfl (op_assign rfl) ?_
    refine wl_nil ?_
    refine st_tn ?_
    refine w_seq ?_
    refine w_seq ?_
    refine w_region ?_
    refine wl_det rfl rfl rfl (op_assign rfl) ?_
    refine wl_nil ?_
    refine st_tn ?_
    refine w_block ?_
    refine w_loopQ (X := Int × Nat) (fun z => 1 ≤ z.2 ∧ z.2 ≤ (x :: t).length ∧ z.1 = (t.take (z.2 - 1)).foldl min x) (fun z => [(3, .int .i64 (z.1)), (4, .int .i64 (z.2))]) (fun _ => []) (fun z => (x :: t).length - z.2) ((x, 1)) [(0, _)] [] [] rfl (rfl) (.cons rfl (.cons rfl (.nil _))) (.cons rfl (.nil _)) (by
        try dsimp only
        exact ⟨Nat.le_refl _, by simp, rfl⟩) ?_
    rintro ⟨m, i⟩ ⟨hi1, hi, hm⟩
    refine w_norm2 (by dsimp only [List.cons_append, List.nil_append]) (by dsimp only [List.cons_append, List.nil_append]) ?_
    try dsimp only at hi1 hi hm ⊢
    refine w_seq ?_
    refine w_seq ?_
    refine w_region ?_
    refine wl_det rfl rfl rfl (op_move rfl) ?_
    refine wl_det rfl rfl rfl (op_move rfl) ?_
    refine wl_det rfl rfl rfl (op_lenT rfl tS26e (Sl.ent (by first | exact Sl.app (by assumption) _ | exact Sl.app (Sl.app (by assumption) _) _))) ?_
    refine wl_det rfl rfl rfl (op_lss rfl rfl) ?_
    refine wl_nil ?_
    refine st_tn ?_
    refine w_cond_d rfl (fun hc15 => ?_) (fun hc15 => ?_)
    · -- c15.t
      obtain ⟨y, hy⟩ := getE (l := x :: t) (i := i) (by omega)
      have hlt := ltE hy
      refine w_skip ?_
      refine st_tn ?_
      refine w_seq ?_
      refine w_block ?_
      refine w_region ?_
      refine wl_det rfl rfl rfl (op_move rfl) ?_
      refine wl_det rfl rfl rfl (op_move rfl) ?_
      refine wl_det rfl rfl rfl (op_move rfl) ?_
      refine wl_det rfl rfl rfl (op_idx rfl rfl tS26e (Sl.ent (by first | exact Sl.app (by assumption) _ | exact Sl.app (Sl.app (by assumption) _) _)) (by omega)) ?_
      refine wl_det rfl rfl rfl (op_ldx rfl tO3e (by first | exact Sl.app (by assumption) _ | exact Sl.app (Sl.app (by assumption) _) _) (by assumption) (by rfl)) ?_
      refine wl_det rfl rfl rfl (op_min rfl rfl) ?_
      refine wl_det rfl rfl rfl (op_assign rfl) ?_
      refine wl_nil ?_
      refine st_bn ?_
      refine st_tn ?_
      refine w_region ?_
      refine wl_det rfl rfl rfl (op_move rfl) ?_
      refine wl_det rfl rfl rfl (op_add' rfl rfl (by omega)) ?_
      refine wl_det rfl rfl rfl (op_assign rfl) ?_
      refine wl_nil ?_
      refine st_roundQ (x := (m, i)) ((min m y, i + 1)) [] rfl (rfl) (.cons rfl (.cons rfl (.nil _))) (.cons rfl (.nil _)) (by
          try dsimp only
          refine ⟨by omega, by omega, ?_⟩
          have hy' : t[i - 1]? = some y := by rw [show i = (i - 1) + 1 by omega] at hy; simpa using hy
          rw [show i + 1 - 1 = (i - 1) + 1 by omega, take_snoc hy', foldl_snoc, hm]) (by
          try dsimp only
          omega) 
    · -- c15.f
      refine w_exit ?_
      refine st_te ?_
      refine st_te ?_
      refine st_be ?_
      refine st_tn ?_
      refine w_seq ?_
      refine w_region ?_
      refine wl_det rfl rfl rfl (op_move rfl) ?_
      refine wl_det rfl rfl rfl (op_assign rfl) ?_
      refine wl_nil ?_
      refine st_tn ?_
      refine w_ret ?_
      refine st_ret (vs := [_]) [] Try.results47 ⟨rfl, trivial⟩ rfl ?_
      refine ⟨_, rfl, ?_⟩
      refine ⟨?_, rfl⟩; rw [hm, List.take_of_length_le (by simp at *; omega)]; rfl

theorem reverse_any {σ : World} {F : List Res} {l : List Int} {a : Option Addr} {c : Nat} (lab : Nat) (hl : l.length ≤ 1048576) :
    FnT Try.prog σ F 45 [.slice a l.length c] [(lab, slW 3 SL.encZ 1 (.slice a l.length c) l)] (fun u ρ => u = .tuple #[] ∧ ρ = [(lab, slW 3 SL.encZ 1 (.slice a l.length c) l.reverse)]) :=
  fn_sort (enc0 := Value.int .i64) (enc := SL.encZ) (fun _ => rfl) (srt := List.reverse) (fun l => List.length_reverse) (fun g cap l w hH hg hl => (Try.slices_Reverse_int g 0 cap l w hH (by omega)).mono fun _ _ ⟨h1, n, h2⟩ => ⟨h1, n, #[], by rw [Go.Sort.grow_empty]; exact h2⟩) (fun a cap w => Try.slices_Reverse_int_empty a cap w) lab (by omega)
/-- An assignment. -/
def asg (m : ZM) : List (Int × Int) := (srt (m.map Prod.fst)).map fun k => (k, (lookK KZ m k).getD 0)
set_option maxHeartbeats 1000000 in
set_option maxRecDepth 100000 in
theorem asg_any {σ : World} {F : List Res} {bM : Nat} {m : ZM} (lab : Nat) (hk : ∀ p ∈ m, I64 p.1) (hl : m.length ≤ 1048576) :
    FnT Try.prog σ F 53 [.map (some bM)] [(501, mp KZ encVZ bM m)] (fun u ρ => ∃ a c, u = .slice a (asg m).length c ∧ ρ = [(lab, slW 49 encO 2 (.slice a (asg m).length c) (asg m))]) := by
  refine fn_of 24 Try.func53 rfl Try.ntmps53 rfl ?_
  have hsl := length_srt (m.map Prod.fst)
  rw [List.length_map] at hsl
  refine w_seq ?_
  refine w_region ?_
  refine wl_det rfl rfl rfl (op_assign rfl) ?_
  refine wl_nil ?_
  refine st_tn ?_
  refine w_seq ?_
  refine w_region ?_
  refine wl_det rfl rfl rfl (op_assign rfl) ?_
  refine wl_nil ?_
  refine st_tn ?_
  refine w_seq ?_
  refine w_seq ?_
  refine w_region ?_
  refine wl_det rfl rfl rfl (op_move rfl) ?_
  refine wl_op [] rfl rfl rfl rfl (op_fn Try.func70 rfl rfl rfl (keysZ 7)) ?_
  rintro _ _ ⟨b7, rfl, rfl⟩
  refine wl_op [] rfl rfl rfl rfl (op_fn Try.func60 rfl rfl rfl (sortedZ 8 (Ent.lab (l := 7) rfl (says_cel 0)) (Mr.lab 501 rfl) hk (by omega))) ?_
  rintro _ _ ⟨a8, c8, rfl, rfl⟩
  refine wl_det rfl rfl rfl (op_lenT rfl tS26e (Sl.ent (Sl.lab 8 rfl (by unfold maxLen; omega)))) ?_
  refine wl_det rfl rfl rfl (op_move rfl) ?_
  refine wl_nil ?_
  refine st_tn ?_
  refine w_block ?_
  refine w_emp 3 (slO_nil 49 2) ?_
  refine w_loopQ (X := Nat × List (Int × Int) × Option Addr × Nat) (fun z => z.1 ≤ (srt (m.map Prod.fst)).length ∧ z.2.1 = ((srt (m.map Prod.fst)).take z.1).map fun k => (k, (lookK KZ m k).getD 0)) (fun z => [(10, .int .i64 (z.1)), (3, .slice (z.2.2.1) (z.2.1).length (z.2.2.2))]) (fun z => [(3, slW 49 encO 2 (.slice (z.2.2.1) (z.2.1).length (z.2.2.2)) (z.2.1))]) (fun z => (srt (m.map Prod.fst)).length - z.1) ((0, [], none, 0)) [(0, _), (8, _), (9, _)] [(501, _), (7, _), (8, _)] [3, 501, 7, 8] rfl (rfl) (.cons rfl (.cons rfl (.nil _))) (.cons rfl (.cons rfl (.cons rfl (.nil _)))) (by
      try dsimp only
      exact ⟨Nat.zero_le _, by simp⟩) ?_
  rintro ⟨i, out, a_out, c_out⟩ ⟨hi, ho⟩
  refine w_norm2 (by dsimp only [List.cons_append, List.nil_append]) (by dsimp only [List.cons_append, List.nil_append]) ?_
  try dsimp only at hi ho ⊢
  refine w_seq ?_
  refine w_region ?_
  refine wl_det rfl rfl rfl (op_lss rfl rfl) ?_
  refine wl_nil ?_
  refine st_tn ?_
  refine w_seq ?_
  refine w_cond_d rfl (fun hc11 => ?_) (fun hc11 => ?_)
  · -- c11.t
    obtain ⟨x, hx⟩ := getE (l := srt (m.map Prod.fst)) (i := i) (by omega)
    have hlt := ltE hx
    have hlo : out.length ≤ m.length := by rw [ho]; simp; omega
    refine w_skip ?_
    refine st_tn ?_
    refine w_seq ?_
    refine w_block ?_
    refine w_seq ?_
    refine w_region ?_
    refine wl_det rfl rfl rfl (op_idx rfl rfl tS26e (Sl.ent (Sl.lab 8 rfl (by unfold maxLen; omega))) (by omega)) ?_
    refine wl_det rfl rfl rfl (op_ldx rfl tO3e (Sl.lab 8 rfl (by unfold maxLen; omega)) (by assumption) (by rfl)) ?_
    refine wl_det rfl rfl rfl (op_assign rfl) ?_
    refine wl_nil ?_
    refine st_tn ?_
    refine w_region ?_
    refine wl_det rfl rfl rfl (op_move rfl) ?_
    refine wl_det rfl rfl rfl (op_move rfl) ?_
    refine wl_det rfl rfl rfl (op_move rfl) ?_
    refine wl_det rfl rfl rfl (op_move rfl) ?_
    refine wl_det rfl rfl rfl (op_val (v' := .int .i64 ((lookK KZ m x).getD 0)) (by cases lookK KZ m x <;> rfl) (op_lookup (kt := KZ) (encV := encVZ) rfl rfl tQ72e tN3e (Mr.lab 501 rfl))) ?_
    refine wl_det rfl rfl rfl (op_build tB49e rfl rfl) ?_
    refine wl_op [] rfl rfl rfl rfl (op_buildSlice (enc := encO) (l := [(x, (lookK KZ m x).getD 0)]) (lab := 20) tL45_1e rfl rfl (fun _ => rfl) rfl) ?_
    rintro _ _ ⟨a20, c20, rfl, rfl⟩
    refine wl_op [3] rfl rfl rfl rfl (op_append (lab := 3) (lab' := 21) rfl rfl tP45e enc1O (Sl.lab 20 rfl (by simp [maxLen])) (by simp; omega) (by simp; omega)) ?_
    rintro _ _ ⟨a21, c21, rfl, rfl⟩
    refine wl_det rfl rfl rfl (op_assign rfl) ?_
    refine wl_nil ?_
    refine st_bn ?_
    refine st_tn ?_
    refine w_region ?_
    refine wl_det rfl rfl rfl (op_add' rfl rfl (by omega)) ?_
    refine wl_det rfl rfl rfl (op_move rfl) ?_
    refine wl_nil ?_
    refine st_roundQ (x := (i, out, a_out, c_out)) ((i + 1, _, _, _)) [21, 501, 7, 8] rfl (rfl) (.cons rfl (.cons rfl (.nil _))) (.cons rfl (.cons rfl (.cons rfl (.nil _)))) (by
        try dsimp only
        exact ⟨by omega, by rw [take_snoc hx, List.map_append, ho]; rfl⟩) (by
        try dsimp only
        omega) 
  · -- c11.f
    refine w_exit ?_
    refine st_te ?_
    refine st_te ?_
    refine st_be ?_
    refine st_tn ?_
    refine w_seq ?_
    rw [take_all (by omega)] at ho
    refine w_region ?_
    refine wl_det rfl rfl rfl (op_move rfl) ?_
    refine wl_det rfl rfl rfl (op_assign rfl) ?_
    refine wl_nil ?_
    refine st_tn ?_
    refine w_ret ?_
    refine st_ret (vs := [_]) [3] Try.results53 ⟨rfl, trivial⟩ rfl ?_
    refine ⟨[(lab, _)], rfl, ?_⟩
    unfold asg; rw [← ho]; exact ⟨_, _, rfl, rfl⟩

end Go.Proofs.Ytgdjnjbipemdcaa
