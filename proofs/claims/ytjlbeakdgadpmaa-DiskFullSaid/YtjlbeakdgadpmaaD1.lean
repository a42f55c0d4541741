/- Contracts: names, and the methods of a disk that read it (layer 26). Conditions: none. -/
import Derived.Test.YtjlbeakdgadpmaaProg
import Derived.Test.YtjlbeakdgadpmaaM0
import Derived.Test.YtjlbeakdgadpmaaSlV
import Derived.Test.YtjlbeakdgadpmaaSlF
namespace Go.Proofs.Ytjlbeakdgadpmaa
open Go Go.SL Go.RowKit Go.DskM
set_option linter.unusedVariables false
set_option linter.unusedSimpArgs false
theorem tF65_2a : fieldB Try.prog 65 2 2 = true := by kernel_rfl
theorem tF65_3a : fieldB Try.prog 65 3 3 = true := by kernel_rfl
theorem tF65_4a : fieldB Try.prog 65 4 4 = true := by kernel_rfl
theorem tO3a : oneB Try.prog 3 = true := by kernel_rfl
theorem tO4a : oneB Try.prog 4 = true := by kernel_rfl
theorem tO9a : oneB Try.prog 9 = true := by kernel_rfl
theorem tS48a : sliceB Try.prog 48 9 1 = true := by kernel_rfl
theorem tZ3a : (Try.prog.info? 3).map (·.size) = some 1 := by kernel_rfl
theorem tZ4a : (Try.prog.info? 4).map (·.size) = some 1 := by kernel_rfl

theorem take_snoc {α : Type} {l : List α} {i : Nat} {x : α} (h : l[i]? = some x) : l.take (i + 1) = l.take i ++ [x] := by
  rw [List.take_add_one, h]; rfl
theorem take_all {α : Type} {l : List α} {i : Nat} (h : l.length ≤ i) : l.take i = l := List.take_of_length_le h
/-- All bytes lie in a range. -/
def inR (lo hi : Int) (s : Bs) : Prop := ∀ b ∈ s, lo ≤ (b.toNat : Int) ∧ (b.toNat : Int) ≤ hi
instance (lo hi : Int) (s : Bs) : Decidable (inR lo hi s) := by unfold inR; infer_instance
set_option maxHeartbeats 400000 in
set_option maxRecDepth 100000 in
theorem within_any {σ : World} {F : List Res} (s : Bs) (lo hi : Int) (hs : s.length ≤ maxLen) (h0 : 0 ≤ lo ∧ lo ≤ 255) (h1 : 0 ≤ hi ∧ hi ≤ 255) : FnT Try.prog σ F 57 [.string (str s), .int .u8 lo, .int .u8 hi] [] (fun u ρ => u = .bool (decide (inR lo hi s)) ∧ ρ = []) := by
  refine fn_of 26 Try.func57 rfl Try.ntmps57 rfl ?_
  unfold maxLen at hs
  refine w_seq ?_
  refine w_region ?_
  refine wl_det rfl rfl rfl (op_assign rfl) ?_
  refine wl_nil ?_
  refine st_tn ?_
  refine w_seq ?_
  refine w_seq ?_
  refine w_region ?_
  refine wl_det rfl rfl rfl (op_move rfl) ?_
  refine wl_det rfl rfl rfl (op_lenBs rfl Try.underlying9) ?_
  refine wl_det rfl rfl rfl (op_move rfl) ?_
  refine wl_nil ?_
  refine st_tn ?_
  refine w_block ?_
  refine w_loopQ (X := Nat) (fun z => z ≤ s.length ∧ ∀ b ∈ s.take z, lo ≤ (b.toNat : Int) ∧ (b.toNat : Int) ≤ hi) (fun z => [(10, .int .i64 (z))]) (fun _ => []) (fun z => s.length - z) (0) [(0, _), (1, _), (2, _), (9, _)] [] [] rfl (rfl) (.cons rfl (.nil _)) (.cons rfl (.cons rfl (.cons rfl (.cons rfl (.nil _))))) (by
      try dsimp only
      exact ⟨Nat.zero_le _, by simp⟩) ?_
  rintro i ⟨hi0, hn⟩
  refine w_norm2 (by dsimp only [List.cons_append, List.nil_append]) (by dsimp only [List.cons_append, List.nil_append]) ?_
  try dsimp only at hi0 hn ⊢
  refine w_seq ?_
  refine w_region ?_
  refine wl_det rfl rfl rfl (op_lss rfl rfl) ?_
  refine wl_nil ?_
  refine st_tn ?_
  refine w_seq ?_
  refine w_cond_d rfl (fun hc11 => ?_) (fun hc11 => ?_)
  · -- c11.t
    obtain ⟨b, hb⟩ := getE (l := s) (i := i) (by omega)
    refine w_skip ?_
    refine st_tn ?_
    refine w_seq ?_
    refine w_block ?_
    refine w_seq ?_
    refine w_region ?_
    refine wl_det rfl rfl rfl (op_move rfl) ?_
    refine wl_det rfl rfl rfl (op_assign rfl) ?_
    refine wl_nil ?_
    refine st_tn ?_
    refine w_seq ?_
    refine w_cutL [(24, .bool (decide ((b.toNat : Int) < lo ∨ (b.toNat : Int) > hi)))] [0, 1, 2, 9, 10] [] rfl (fun K' hK => ?_) ?_
    · -- cut r4
      refine w_region ?_
      refine wl_det rfl rfl rfl (op_move rfl) ?_
      refine wl_det rfl rfl rfl (op_move rfl) ?_
      refine wl_det rfl rfl rfl (op_idxBs rfl rfl Try.underlying9 (by assumption)) ?_
      refine wl_det rfl rfl rfl (op_move rfl) ?_
      refine wl_det rfl rfl rfl (op_lss rfl rfl) ?_
      refine wl_det rfl rfl rfl (op_move rfl) ?_
      refine wl_gsplit (t := 18) rfl (fun hg18 => ?_) (fun hg18 => ?_)
      · -- 18 is True
        refine wl_unwanted rfl rfl rfl rfl rfl rfl rfl rfl ?_
        refine wl_unwanted rfl rfl rfl rfl rfl rfl rfl rfl ?_
        refine wl_unwanted rfl rfl rfl rfl rfl rfl rfl rfl ?_
        refine wl_unwanted rfl rfl rfl rfl rfl rfl rfl rfl ?_
        refine wl_unwanted rfl rfl rfl rfl rfl rfl rfl rfl ?_
        refine wl_det rfl rfl rfl (op_pick_t rfl rfl) ?_
        refine wl_nil ?_
        refine st_tn ?_
        exact cut_done1 [] hK rfl (by first | (rw [decide_eq_decide]; omega) | (symm; rw [decide_eq_false_iff_not]; omega) | (symm; rw [decide_eq_true_iff]; omega) | (simp; done) | (simp; omega) | (simp [*]; done) | (simp [*]; omega)) (by rfl) rfl rfl
      · -- 18 is False
        refine wl_wanted_det rfl rfl rfl rfl rfl rfl rfl (op_move rfl) ?_
        refine wl_wanted_det rfl rfl rfl rfl rfl rfl rfl (op_move rfl) ?_
        refine wl_wanted_det rfl rfl rfl rfl rfl rfl rfl (op_idxBs rfl rfl Try.underlying9 (by assumption)) ?_
        refine wl_wanted_det rfl rfl rfl rfl rfl rfl rfl (op_move rfl) ?_
        refine wl_wanted_det rfl rfl rfl rfl rfl rfl rfl (op_gtr rfl rfl) ?_
        refine wl_det rfl rfl rfl (op_pick_f rfl rfl) ?_
        refine wl_nil ?_
        refine st_tn ?_
        exact cut_done1 [] hK rfl (by first | (rw [decide_eq_decide]; omega) | (symm; rw [decide_eq_false_iff_not]; omega) | (symm; rw [decide_eq_true_iff]; omega) | (simp; done) | (simp; omega) | (simp [*]; done) | (simp [*]; omega)) (by rfl) rfl rfl
    · -- behind r4
      show W _ _ _ _ _ [(24, _), (0, _), (1, _), (2, _), (9, _), (10, _)] [] _
      refine w_cond_d rfl (fun hc24 => ?_) (fun hc24 => ?_)
      · -- c24.t
        refine w_seq ?_
        refine w_region ?_
        refine wl_det rfl rfl rfl (op_assign rfl) ?_
        refine wl_nil ?_
        refine st_tn ?_
        refine w_ret ?_
        refine st_br ?_
        refine st_tr ?_
        refine st_tr ?_
        refine st_br ?_
        refine st_tr ?_
        refine st_ret (vs := [_]) [] Try.results57 ⟨rfl, trivial⟩ rfl ?_
        refine ⟨_, rfl, ?_⟩
        refine ⟨?_, rfl⟩; have : ¬ inR lo hi s := fun h => by have := h b (List.mem_of_getElem? hb); omega
        simp [retv, this]
      · -- c24.f
        refine w_skip ?_
        refine st_bn ?_
        refine st_tn ?_
        refine w_region ?_
        refine wl_det rfl rfl rfl (op_add' rfl rfl (by omega)) ?_
        refine wl_det rfl rfl rfl (op_move rfl) ?_
        refine wl_nil ?_
        refine st_roundQ (x := i) (i + 1) [] rfl (rfl) (.cons rfl (.nil _)) (.cons rfl (.cons rfl (.cons rfl (.cons rfl (.nil _))))) (by
            try dsimp only
            refine ⟨by omega, by rw [take_snoc hb]; intro q hq; rcases List.mem_append.1 hq with hq | hq; (· exact hn q hq); (· simp only [List.mem_singleton] at hq; subst hq; omega)⟩) (by
            try dsimp only
            omega) 
  · -- c11.f
    refine w_exit ?_
    refine st_te ?_
    refine st_te ?_
    refine st_be ?_
    refine st_tn ?_
    refine w_seq ?_
    refine w_region ?_
    refine wl_det rfl rfl rfl (op_assign rfl) ?_
    refine wl_nil ?_
    refine st_tn ?_
    refine w_ret ?_
    refine st_ret (vs := [_]) [] Try.results57 ⟨rfl, trivial⟩ rfl ?_
    refine ⟨_, rfl, ?_⟩
    refine ⟨?_, rfl⟩; rw [take_all (by omega)] at hn; have : inR lo hi s := hn
    simp [retv, this]

theorem nameB_iff (s : Bs) : nameB s = decide (s ≠ [] ∧ s.length ≤ 64 ∧ inR 33 126 s) := by
  unfold nameB inR
  rw [Bool.eq_iff_iff]
  simp only [Bool.and_eq_true, decide_eq_true_eq, List.all_eq_true, and_assoc]
  constructor
  · rintro ⟨h1, h2, h3⟩; exact ⟨h1, h2, fun b hb => by have := h3 b hb; omega⟩
  · rintro ⟨h1, h2, h3⟩; exact ⟨h1, h2, fun b hb => by have := h3 b hb; omega⟩
-- CALL sleuth/attribute.within within_any _ _ _ (by assumption) (by omega) (by omega)
set_option maxHeartbeats 400000 in
set_option maxRecDepth 100000 in
theorem isName_any {σ : World} {F : List Res} (s : Bs) (hs : s.length ≤ maxLen) : FnT Try.prog σ F 47 [.string (str s)] [] (fun u ρ => u = .bool (nameB s) ∧ ρ = []) := by
  refine fn_of 14 Try.func47 rfl Try.ntmps47 rfl ?_
  refine w_seq ?_
  refine w_region ?_
  refine wl_det rfl rfl rfl (op_assign rfl) ?_
  refine wl_nil ?_
  refine st_tn ?_
  refine w_seq ?_
  refine w_region ?_
  refine wl_det rfl rfl rfl (op_move rfl) ?_
  refine wl_det rfl rfl rfl (op_neBs rfl rfl) ?_
  refine wl_det rfl rfl rfl (op_move rfl) ?_
  refine wl_gsplit (t := 5) rfl (fun hg5 => ?_) (fun hg5 => ?_)
  · -- 5 is True
    refine wl_wanted_det rfl rfl rfl rfl rfl rfl rfl (op_move rfl) ?_
    refine wl_wanted_det rfl rfl rfl rfl rfl rfl rfl (op_lenBs rfl Try.underlying9) ?_
    refine wl_wanted_det rfl rfl rfl rfl rfl rfl rfl (op_leq rfl rfl) ?_
    refine wl_det rfl rfl rfl (op_pick_t rfl rfl) ?_
    refine wl_det rfl rfl rfl (op_move rfl) ?_
    refine wl_gsplit (t := 10) rfl (fun hg10 => ?_) (fun hg10 => ?_)
    · -- 10 is True
      refine wl_wanted_det rfl rfl rfl rfl rfl rfl rfl (op_move rfl) ?_
      refine wl_wanted_det rfl rfl rfl rfl rfl rfl rfl (op_fn Try.func57 rfl rfl rfl (within_any _ _ _ (by assumption) (by omega) (by omega))) ?_
      refine wl_det rfl rfl rfl (op_pick_t rfl rfl) ?_
      refine wl_det rfl rfl rfl (op_assign rfl) ?_
      refine wl_nil ?_
      refine st_tn ?_
      refine w_ret ?_
      refine st_ret (vs := [_]) [] Try.results47 ⟨rfl, trivial⟩ rfl ?_
      refine ⟨_, rfl, ?_⟩
      refine ⟨?_, rfl⟩
      rw [nameB_iff]
      first | (simp [retv, *]; done) | (simp [retv, *]; omega) | (simp_all [retv]; done)
    · -- 10 is False
      refine wl_unwanted rfl rfl rfl rfl rfl rfl rfl rfl ?_
      refine wl_unwanted rfl rfl rfl rfl rfl rfl rfl rfl ?_
      refine wl_det rfl rfl rfl (op_pick_f rfl rfl) ?_
      refine wl_det rfl rfl rfl (op_assign rfl) ?_
      refine wl_nil ?_
      refine st_tn ?_
      refine w_ret ?_
      refine st_ret (vs := [_]) [] Try.results47 ⟨rfl, trivial⟩ rfl ?_
      refine ⟨_, rfl, ?_⟩
      refine ⟨?_, rfl⟩
      rw [nameB_iff]
      first | (simp [retv, *]; done) | (simp [retv, *]; omega) | (simp_all [retv]; done)
  · -- 5 is False
    refine wl_unwanted rfl rfl rfl rfl rfl rfl rfl rfl ?_
    refine wl_unwanted rfl rfl rfl rfl rfl rfl rfl rfl ?_
    refine wl_unwanted rfl rfl rfl rfl rfl rfl rfl rfl ?_
    refine wl_det rfl rfl rfl (op_pick_f rfl rfl) ?_
    refine wl_det rfl rfl rfl (op_move rfl) ?_
    refine wl_unwanted rfl rfl rfl rfl rfl rfl rfl rfl ?_
    refine wl_unwanted rfl rfl rfl rfl rfl rfl rfl rfl ?_
    refine wl_det rfl rfl rfl (op_pick_f rfl rfl) ?_
    refine wl_det rfl rfl rfl (op_assign rfl) ?_
    refine wl_nil ?_
    refine st_tn ?_
    refine w_ret ?_
    refine st_ret (vs := [_]) [] Try.results47 ⟨rfl, trivial⟩ rfl ?_
    refine ⟨_, rfl, ?_⟩
    refine ⟨?_, rfl⟩
    rw [nameB_iff]
    first | (simp [retv, *]; done) | (simp [retv, *]; omega) | (simp_all [retv]; done)

/-- The cells of a disk. -/
def cellD (s : St) (m : Nat) : List Value := [.int .i64 s.cap, .map (some m), .bool s.down, .bool s.lim, .int .i64 s.left]
theorem celD {σ : World} {F : List Res} {R : RL} {b : Nat} {s : St} {m : Nat} (lab : Nat) (h : getL R lab = some (cel b (cellD s m) 65)) : Ent σ (rs R ++ F) (At ⟨b, 0, none⟩ (cellD s m)) := Ent.lab h (says_cel 0)
-- CALL sleuth/attribute.IsName isName_any _ (by assumption)
set_option maxHeartbeats 400000 in
set_option maxRecDepth 100000 in
theorem ready_any {σ : World} {F : List Res} {b m : Nat} {s : St} {a : Option Addr} {c : Nat} {l : List Bs} (hd : Ent σ F (At ⟨b, 0, none⟩ (cellD s m))) (h : Sl σ F encT 1 (.slice a l.length c) l) (hl : ∀ x ∈ l, x.length ≤ maxLen) :
    FnT Try.prog σ F 35 [.pointer (some ⟨b, 0, none⟩), .slice a l.length c] [] (fun u ρ => u = .int .i64 (readyE s l) ∧ ρ = []) := by
  refine fn_of 25 Try.func35 rfl Try.ntmps35 rfl ?_
  have hle := h.i64
  refine w_seq ?_
  refine w_region ?_
  refine wl_det rfl rfl rfl (op_assign rfl) ?_
  refine wl_nil ?_
  refine st_tn ?_
  refine w_seq ?_
  refine w_block ?_
  refine w_seq ?_
  refine w_region ?_
  refine wl_det rfl rfl rfl (op_move rfl) ?_
  refine wl_det rfl rfl rfl (op_val (v' := .bool false) (by simp) (op_eqPtr rfl Try.underlying22)) ?_
  refine wl_det rfl rfl rfl (op_assign rfl) ?_
  refine wl_nil ?_
  refine st_tn ?_
  refine w_cond_f (rfl) ?_
  refine w_seq ?_
  refine w_region ?_
  refine wl_det rfl rfl rfl (op_move rfl) ?_
  refine wl_det rfl rfl rfl (op_nilCheck rfl) ?_
  refine wl_det rfl rfl rfl (op_fieldAddr (off := 2) rfl tF65_2a) ?_
  refine wl_det rfl rfl rfl (op_load1 rfl tO4a (Ent.app (Ent.fld hd 2) _)) ?_
  refine wl_det rfl rfl rfl (op_assign rfl) ?_
  refine wl_nil ?_
  refine st_tn ?_
  refine w_cond rfl (fun hc10 => ?_) (fun hc10 => ?_)
  · -- c10.t
    refine w_seq ?_
    refine w_region ?_
    refine wl_det rfl rfl rfl (op_assign rfl) ?_
    refine wl_nil ?_
    refine st_tn ?_
    refine w_ret ?_
    refine st_br ?_
    refine st_tr ?_
    refine st_ret (vs := [_]) [] Try.results35 ⟨rfl, trivial⟩ rfl ?_
    refine ⟨_, rfl, ?_⟩
    refine ⟨?_, rfl⟩; unfold readyE; simp [retv, hc10]
  · -- c10.f
    refine w_skip ?_
    refine st_bn ?_
    refine st_tn ?_
    refine w_seq ?_
    refine w_seq ?_
    refine w_region ?_
    refine wl_det rfl rfl rfl (op_move rfl) ?_
    refine wl_det rfl rfl rfl (op_lenT rfl tS48a (Sl.ent (by first | exact Sl.app (by assumption) _ | exact Sl.app (Sl.app (by assumption) _) _))) ?_
    refine wl_det rfl rfl rfl (op_move rfl) ?_
    refine wl_nil ?_
    refine st_tn ?_
    refine w_block ?_
    refine w_loopQ (X := Nat) (fun z => z ≤ l.length ∧ ∀ x ∈ l.take z, nameB x = true) (fun z => [(17, .int .i64 (z))]) (fun _ => []) (fun z => l.length - z) (0) [(15, _), (16, _)] [] [] rfl (rfl) (.cons rfl (.nil _)) (.cons rfl (.cons rfl (.nil _))) (by
        try dsimp only
        exact ⟨Nat.zero_le _, by simp⟩) ?_
    rintro i ⟨hi, hn⟩
    refine w_norm2 (by dsimp only [List.cons_append, List.nil_append]) (by dsimp only [List.cons_append, List.nil_append]) ?_
    try dsimp only at hi hn ⊢
    refine w_seq ?_
    refine w_region ?_
    refine wl_det rfl rfl rfl (op_lss rfl rfl) ?_
    refine wl_nil ?_
    refine st_tn ?_
    refine w_seq ?_
    refine w_cond_d rfl (fun hc18 => ?_) (fun hc18 => ?_)
    · -- c18.t
      obtain ⟨x, hx⟩ := getE (l := l) (i := i) (by omega)
      have hxl := hl x (List.mem_of_getElem? hx)
      refine w_skip ?_
      refine st_tn ?_
      refine w_seq ?_
      refine w_block ?_
      refine w_seq ?_
      refine w_region ?_
      refine wl_det rfl rfl rfl (op_idx rfl rfl tS48a (Sl.ent (by first | exact Sl.app (by assumption) _ | exact Sl.app (Sl.app (by assumption) _) _)) (by omega)) ?_
      refine wl_det rfl rfl rfl (op_ldx rfl tO9a (by first | exact Sl.app (by assumption) _ | exact Sl.app (Sl.app (by assumption) _) _) (by assumption) (by rfl)) ?_
      refine wl_det rfl rfl rfl (op_assign rfl) ?_
      refine wl_nil ?_
      refine st_tn ?_
      refine w_seq ?_
      refine w_region ?_
      refine wl_det rfl rfl rfl (op_move rfl) ?_
      refine wl_det rfl rfl rfl (op_fn Try.func47 rfl rfl rfl (isName_any _ (by assumption))) ?_
      refine wl_det rfl rfl rfl (op_not rfl) ?_
      refine wl_nil ?_
      refine st_tn ?_
      refine w_cond rfl (fun hc23 => ?_) (fun hc23 => ?_)
      · -- c23.t
        refine w_seq ?_
        refine w_region ?_
        refine wl_det rfl rfl rfl (op_assign rfl) ?_
        refine wl_nil ?_
        refine st_tn ?_
        refine w_ret ?_
        refine st_br ?_
        refine st_tr ?_
        refine st_tr ?_
        refine st_br ?_
        refine st_tr ?_
        refine st_ret (vs := [_]) [] Try.results35 ⟨rfl, trivial⟩ rfl ?_
        refine ⟨_, rfl, ?_⟩
        refine ⟨?_, rfl⟩
        have hdn : s.down = false := by simpa using hc10
        simp only [retv]; unfold readyE
        first | (have hnx : nameB x = false := by simpa using hc23
                 have : ¬ ∀ y ∈ l, nameB y = true := fun h => by rw [h x (List.mem_of_getElem? hx)] at hnx; simp at hnx
                 simp [hdn, this]; done) | (rw [take_all (by omega)] at hn; rw [if_neg (by simp [hdn]), if_pos (List.all_eq_true.2 hn)])
      · -- c23.f
        refine w_skip ?_
        refine st_bn ?_
        refine st_tn ?_
        refine w_region ?_
        refine wl_det rfl rfl rfl (op_add' rfl rfl (by omega)) ?_
        refine wl_det rfl rfl rfl (op_move rfl) ?_
        refine wl_nil ?_
        refine st_roundQ (x := i) (i + 1) [] rfl (rfl) (.cons rfl (.nil _)) (.cons rfl (.cons rfl (.nil _))) (by
            try dsimp only
            refine ⟨by omega, by rw [take_snoc hx]; intro q hq; rcases List.mem_append.1 hq with hq | hq; (· exact hn q hq); (· simp only [List.mem_singleton] at hq; subst hq; simpa using hc23)⟩) (by
            try dsimp only
            omega) 
    · -- c18.f
      refine w_exit ?_
      refine st_te ?_
      refine st_te ?_
      refine st_be ?_
      refine st_tn ?_
      refine w_seq ?_
      refine w_region ?_
      refine wl_det rfl rfl rfl (op_assign rfl) ?_
      refine wl_nil ?_
      refine st_tn ?_
      refine w_ret ?_
      refine st_ret (vs := [_]) [] Try.results35 ⟨rfl, trivial⟩ rfl ?_
      refine ⟨_, rfl, ?_⟩
      refine ⟨?_, rfl⟩
      have hdn : s.down = false := by simpa using hc10
      simp only [retv]; unfold readyE
      first | (have hnx : nameB x = false := by simpa using hc23
               have : ¬ ∀ y ∈ l, nameB y = true := fun h => by rw [h x (List.mem_of_getElem? hx)] at hnx; simp at hnx
               simp [hdn, this]; done) | (rw [take_all (by omega)] at hn; rw [if_neg (by simp [hdn]), if_pos (List.all_eq_true.2 hn)])

set_option maxHeartbeats 400000 in
set_option maxRecDepth 100000 in
theorem operate_any {σ : World} {F : List Res} {b m : Nat} (s : St) (hg : DskM.Good s) :
    FnT Try.prog σ F 36 [.pointer (some ⟨b, 0, none⟩)] [(601, cel b (cellD s m) 65)] (fun u ρ => u = .bool (oper s).1 ∧ ρ = [(601, cel b (cellD (oper s).2 m) 65)]) := by
  refine fn_of 23 Try.func36 rfl Try.ntmps36 rfl ?_
  have hlo := hg.lo
  have hhi := hg.hi
  refine w_seq ?_
  refine w_region ?_
  refine wl_det rfl rfl rfl (op_assign rfl) ?_
  refine wl_nil ?_
  refine st_tn ?_
  refine w_seq ?_
  refine w_seq ?_
  refine w_region ?_
  refine wl_det rfl rfl rfl (op_move rfl) ?_
  refine wl_det rfl rfl rfl (op_nilCheck rfl) ?_
  refine wl_det rfl rfl rfl (op_fieldAddr (off := 3) rfl tF65_3a) ?_
  refine wl_det rfl rfl rfl (op_load1 rfl tO4a (Ent.lab (l := 601) rfl (says_cel 3))) ?_
  refine wl_det rfl rfl rfl (op_not rfl) ?_
  refine wl_nil ?_
  refine st_tn ?_
  refine w_cond rfl (fun hc7 => ?_) (fun hc7 => ?_)
  · -- c7.t
    refine w_seq ?_
    refine w_region ?_
    refine wl_det rfl rfl rfl (op_assign rfl) ?_
    refine wl_nil ?_
    refine st_tn ?_
    refine w_ret ?_
    refine st_tr ?_
    refine st_ret (vs := [_]) [601] Try.results36 ⟨rfl, trivial⟩ rfl ?_
    refine ⟨[(601, _)], rfl, ?_⟩
    have : s.lim = false := by simpa using hc7
    have h : oper s = (true, s) := by simp [oper, this]
    rw [h]; exact ⟨rfl, rfl⟩
  · -- c7.f
    refine w_skip ?_
    refine st_tn ?_
    refine w_seq ?_
    refine w_seq ?_
    refine w_region ?_
    refine wl_det rfl rfl rfl (op_move rfl) ?_
    refine wl_det rfl rfl rfl (op_nilCheck rfl) ?_
    refine wl_det rfl rfl rfl (op_fieldAddr (off := 4) rfl tF65_4a) ?_
    refine wl_det rfl rfl rfl (op_load1 rfl tO3a (Ent.lab (l := 601) rfl (says_cel 4))) ?_
    refine wl_det rfl rfl rfl (op_leq rfl rfl) ?_
    refine wl_nil ?_
    refine st_tn ?_
    refine w_cond_d rfl (fun hc12 => ?_) (fun hc12 => ?_)
    · -- c12.t
      refine w_seq ?_
      refine w_region ?_
      refine wl_det rfl rfl rfl (op_move rfl) ?_
      refine wl_det rfl rfl rfl (op_nilCheck rfl) ?_
      refine wl_det rfl rfl rfl (op_fieldAddr (off := 2) rfl tF65_2a) ?_
      refine wl_op0 [601] rfl rfl rfl (op_store rfl rfl tZ4a (by rfl) (by rfl) (by exact Nat.le_of_ble_eq_true rfl)) ?_
      rintro _ _ ⟨rfl, rfl⟩
      refine wl_nil ?_
      refine st_tn ?_
      refine w_seq ?_
      refine w_region ?_
      refine wl_det rfl rfl rfl (op_assign rfl) ?_
      refine wl_nil ?_
      refine st_tn ?_
      refine w_ret ?_
      refine st_tr ?_
      refine st_ret (vs := [_]) [601] Try.results36 ⟨rfl, trivial⟩ rfl ?_
      refine ⟨[(601, _)], rfl, ?_⟩
      have : s.lim = true := by simpa using hc7
      have h : oper s = (false, { s with down := true }) := by simp [oper, this, hc12]
      rw [h]; exact ⟨rfl, rfl⟩
    · -- c12.f
      refine w_skip ?_
      refine st_tn ?_
      refine w_seq ?_
      refine w_region ?_
      refine wl_det rfl rfl rfl (op_move rfl) ?_
      refine wl_det rfl rfl rfl (op_nilCheck rfl) ?_
      refine wl_det rfl rfl rfl (op_fieldAddr (off := 4) rfl tF65_4a) ?_
      refine wl_det rfl rfl rfl (op_load1 rfl tO3a (Ent.lab (l := 601) rfl (says_cel 4))) ?_
      refine wl_det rfl rfl rfl (op_sub' rfl rfl (by omega)) ?_
      refine wl_det rfl rfl rfl (op_nilCheck rfl) ?_
      refine wl_det rfl rfl rfl (op_fieldAddr (off := 4) rfl tF65_4a) ?_
      refine wl_op0 [601] rfl rfl rfl (op_store rfl rfl tZ3a (by rfl) (by rfl) (by exact Nat.le_of_ble_eq_true rfl)) ?_
      rintro _ _ ⟨rfl, rfl⟩
      refine wl_nil ?_
      refine st_tn ?_
      refine w_seq ?_
      refine w_region ?_
      refine wl_det rfl rfl rfl (op_assign rfl) ?_
      refine wl_nil ?_
      refine st_tn ?_
      refine w_ret ?_
      refine st_ret (vs := [_]) [601] Try.results36 ⟨rfl, trivial⟩ rfl ?_
      refine ⟨[(601, _)], rfl, ?_⟩
      have : s.lim = true := by simpa using hc7
      have h : oper s = (true, { s with left := s.left - 1 }) := by simp [oper, this, hc12]
      rw [h]; exact ⟨rfl, rfl⟩

end Go.Proofs.Ytjlbeakdgadpmaa
