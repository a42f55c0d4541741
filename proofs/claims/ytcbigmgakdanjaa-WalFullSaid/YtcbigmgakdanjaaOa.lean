/- Contracts: names, and the methods of a disk that read it (layer 26). Contracts: the keys of a disk's map in order, Used, find, Read, Durable, List and the small methods (layer 26). Contracts: Read, Durable, List and the small methods of a disk (layer 26). Contracts: Append, Sync, Rename and Remove (layer 26). Contracts: Start (layer 26). Contracts: Equal, Clone, New of a disk (layer 26), and each operation with its result. Conditions: none. -/
import Derived.Test.YtcbigmgakdanjaaProg
import Derived.Test.YtcbigmgakdanjaaM0
import Derived.Test.YtcbigmgakdanjaaSlV
import Derived.Test.YtcbigmgakdanjaaSlF
import Derived.Test.YtcbigmgakdanjaaSl7
import Derived.Test.YtcbigmgakdanjaaShelf
import Derived.Test.YtcbigmgakdanjaaIter
import Derived.Test.YtcbigmgakdanjaaSlU
import Derived.Test.YtcbigmgakdanjaaClon
namespace Go.Proofs.Ytcbigmgakdanjaa
open Go Go.SL Go.RowKit Go.DskM
set_option linter.unusedVariables false
set_option linter.unusedSimpArgs false
theorem tF90_2a : fieldB Try.prog 90 2 2 = true := by kernel_rfl
theorem tF90_3a : fieldB Try.prog 90 3 3 = true := by kernel_rfl
theorem tF90_4a : fieldB Try.prog 90 4 4 = true := by kernel_rfl
theorem tO3a : oneB Try.prog 3 = true := by kernel_rfl
theorem tO4a : oneB Try.prog 4 = true := by kernel_rfl
theorem tO9a : oneB Try.prog 9 = true := by kernel_rfl
theorem tS35a : sliceB Try.prog 35 9 1 = true := by kernel_rfl
theorem tZ3a : (Try.prog.info? 3).map (·.size) = some 1 := by kernel_rfl
theorem tZ4a : (Try.prog.info? 4).map (·.size) = some 1 := by kernel_rfl

theorem take_snoc {α : Type} {l : List α} {i : Nat} {x : α} (h : l[i]? = some x) : l.take (i + 1) = l.take i ++ [x] := by
  rw [List.take_add_one, h]; rfl
theorem take_all {α : Type} {l : List α} {i : Nat} (h : l.length ≤ i) : l.take i = l := List.take_of_length_le h
/-- All bytes lie in a range. -/
def inR (lo hi : Int) (s : Bs) : Prop := ∀ b ∈ s, lo ≤ (b.toNat : Int) ∧ (b.toNat : Int) ≤ hi
instance (lo hi : Int) (s : Bs) : Decidable (inR lo hi s) := by unfold inR; infer_instance
set_option maxHeartbeats 400000 in
set_option maxRecDepth 100000 in
theorem within_any {σ : World} {F : List Res} (s : Bs) (lo hi : Int) (hs : s.length ≤ maxLen) (h0 : 0 ≤ lo ∧ lo ≤ 255) (h1 : 0 ≤ hi ∧ hi ≤ 255) : FnT Try.prog σ F 69 [.string (str s), .int .u8 lo, .int .u8 hi] [] (fun u ρ => u = .bool (decide (inR lo hi s)) ∧ ρ = []) := by
  refine fn_of 26 Try.func69 rfl Try.ntmps69 rfl ?_
  unfold maxLen at hs
  refine w_seq ?_
  refine w_region ?_
  refine wl_det rfl rfl rfl (op_assign rfl) ?_
  refine wl_nil ?_
  refine st_tn ?_
  refine w_seq ?_
  refine w_seq ?_
  refine w_region ?_
  refine wl_det rfl rfl rfl (op_move rfl) ?_
  refine wl_det rfl rfl rfl (op_lenBs rfl Try.underlying9) ?_
  refine wl_det rfl rfl rfl (op_move rfl) ?_
  refine wl_nil ?_
  refine st_tn ?_
  refine w_block ?_
  refine w_loopQ (X := Nat) (fun z => z ≤ s.length ∧ ∀ b ∈ s.take z, lo ≤ (b.toNat : Int) ∧ (b.toNat : Int) ≤ hi) (fun z => [(10, .int .i64 (z))]) (fun _ => []) (fun z => s.length - z) (0) [(0, _), (1, _), (2, _), (9, _)] [] [] rfl (rfl) (.cons rfl (.nil _)) (.cons rfl (.cons rfl (.cons rfl (.cons rfl (.nil _))))) (by
      try dsimp only
      exact ⟨Nat.zero_le _, by simp⟩) ?_
  rintro i ⟨hi0, hn⟩
  refine w_norm2 (by dsimp only [List.cons_append, List.nil_append]) (by dsimp only [List.cons_append, List.nil_append]) ?_
  try dsimp only at hi0 hn ⊢
  refine w_seq ?_
  refine w_region ?_
  refine wl_det rfl rfl rfl (op_lss rfl rfl) ?_
  refine wl_nil ?_
  refine st_tn ?_
  refine w_seq ?_
  refine w_cond_d rfl (fun hc11 => ?_) (fun hc11 => ?_)
  · -- c11.t
    obtain ⟨b, hb⟩ := getE (l := s) (i := i) (by omega)
    refine w_skip ?_
    refine st_tn ?_
    refine w_seq ?_
    refine w_block ?_
    refine w_seq ?_
    refine w_region ?_
    refine wl_det rfl rfl rfl (op_move rfl) ?_
    refine wl_det rfl rfl rfl (op_assign rfl) ?_
    refine wl_nil ?_
    refine st_tn ?_
    refine w_seq ?_
    refine w_cutL [(24, .bool (decide ((b.toNat : Int) < lo ∨ (b.toNat : Int) > hi)))] [0, 1, 2, 9, 10] [] rfl (fun K' hK => ?_) ?_
    · -- cut r4
      refine w_region ?_
      refine wl_det rfl rfl rfl (op_move rfl) ?_
      refine wl_det rfl rfl rfl (op_move rfl) ?_
      refine wl_det rfl rfl rfl (op_idxBs rfl rfl Try.underlying9 (by assumption)) ?_
      refine wl_det rfl rfl rfl (op_move rfl) ?_
      refine wl_det rfl rfl rfl (op_lss rfl rfl) ?_
      refine wl_det rfl rfl rfl (op_move rfl) ?_
      refine wl_gsplit (t := 18) rfl (fun hg18 => ?_) (fun hg18 => ?_)
      · -- 18 is True
        refine wl_unwanted rfl rfl rfl rfl rfl rfl rfl rfl ?_
        refine wl_unwanted rfl rfl rfl rfl rfl rfl rfl rfl ?_
        refine wl_unwanted rfl rfl rfl rfl rfl rfl rfl rfl ?_
        refine wl_unwanted rfl rfl rfl rfl rfl rfl rfl rfl ?_
        refine wl_unwanted rfl rfl rfl rfl rfl rfl rfl rfl ?_
        refine wl_det rfl rfl rfl (op_pick_t rfl rfl) ?_
        refine wl_nil ?_
        refine st_tn ?_
        exact cut_done1 [] hK rfl (by first | (rw [decide_eq_decide]; omega) | (symm; rw [decide_eq_false_iff_not]; omega) | (symm; rw [decide_eq_true_iff]; omega) | (simp; done) | (simp; omega) | (simp [*]; done) | (simp [*]; omega)) (by rfl) rfl rfl
      · -- 18 is False
        refine wl_wanted_det rfl rfl rfl rfl rfl rfl rfl (op_move rfl) ?_
        refine wl_wanted_det rfl rfl rfl rfl rfl rfl rfl (op_move rfl) ?_
        refine wl_wanted_det rfl rfl rfl rfl rfl rfl rfl (op_idxBs rfl rfl Try.underlying9 (by assumption)) ?_
        refine wl_wanted_det rfl rfl rfl rfl rfl rfl rfl (op_move rfl) ?_
        refine wl_wanted_det rfl rfl rfl rfl rfl rfl rfl (op_gtr rfl rfl) ?_
        refine wl_det rfl rfl rfl (op_pick_f rfl rfl) ?_
        refine wl_nil ?_
        refine st_tn ?_
        exact cut_done1 [] hK rfl (by first | (rw [decide_eq_decide]; omega) | (symm; rw [decide_eq_false_iff_not]; omega) | (symm; rw [decide_eq_true_iff]; omega) | (simp; done) | (simp; omega) | (simp [*]; done) | (simp [*]; omega)) (by rfl) rfl rfl
    · -- behind r4
      show W _ _ _ _ _ [(24, _), (0, _), (1, _), (2, _), (9, _), (10, _)] [] _
      refine w_cond_d rfl (fun hc24 => ?_) (fun hc24 => ?_)
      · -- c24.t
        refine w_seq ?_
        refine w_region ?_
        refine wl_det rfl rfl rfl (op_assign rfl) ?_
        refine wl_nil ?_
        refine st_tn ?_
        refine w_ret ?_
        refine st_br ?_
        refine st_tr ?_
        refine st_tr ?_
        refine st_br ?_
        refine st_tr ?_
        refine st_ret (vs := [_]) [] Try.results69 ⟨rfl, trivial⟩ rfl ?_
        refine ⟨_, rfl, ?_⟩
        refine ⟨?_, rfl⟩; have : ¬ inR lo hi s := fun h => by have := h b (List.mem_of_getElem? hb); omega
        simp [retv, this]
      · -- c24.f
        refine w_skip ?_
        refine st_bn ?_
        refine st_tn ?_
        refine w_region ?_
        refine wl_det rfl rfl rfl (op_add' rfl rfl (by omega)) ?_
        refine wl_det rfl rfl rfl (op_move rfl) ?_
        refine wl_nil ?_
        refine st_roundQ (x := i) (i + 1) [] rfl (rfl) (.cons rfl (.nil _)) (.cons rfl (.cons rfl (.cons rfl (.cons rfl (.nil _))))) (by
            try dsimp only
            refine ⟨by omega, by rw [take_snoc hb]; intro q hq; rcases List.mem_append.1 hq with hq | hq; (· exact hn q hq); (· simp only [List.mem_singleton] at hq; subst hq; omega)⟩) (by
            try dsimp only
            omega) 
  · -- c11.f
    refine w_exit ?_
    refine st_te ?_
    refine st_te ?_
    refine st_be ?_
    refine st_tn ?_
    refine w_seq ?_
    refine w_region ?_
    refine wl_det rfl rfl rfl (op_assign rfl) ?_
    refine wl_nil ?_
    refine st_tn ?_
    refine w_ret ?_
    refine st_ret (vs := [_]) [] Try.results69 ⟨rfl, trivial⟩ rfl ?_
    refine ⟨_, rfl, ?_⟩
    refine ⟨?_, rfl⟩; rw [take_all (by omega)] at hn; have : inR lo hi s := hn
    simp [retv, this]

theorem nameB_iff (s : Bs) : nameB s = decide (s ≠ [] ∧ s.length ≤ 64 ∧ inR 33 126 s) := by
  unfold nameB inR
  rw [Bool.eq_iff_iff]
  simp only [Bool.and_eq_true, decide_eq_true_eq, List.all_eq_true, and_assoc]
  constructor
  · rintro ⟨h1, h2, h3⟩; exact ⟨h1, h2, fun b hb => by have := h3 b hb; omega⟩
  · rintro ⟨h1, h2, h3⟩; exact ⟨h1, h2, fun b hb => by have := h3 b hb; omega⟩
-- CALL sleuth/attribute.within within_any _ _ _ (by assumption) (by omega) (by omega)
set_option maxHeartbeats 400000 in
set_option maxRecDepth 100000 in
theorem isName_any {σ : World} {F : List Res} (s : Bs) (hs : s.length ≤ maxLen) : FnT Try.prog σ F 50 [.string (str s)] [] (fun u ρ => u = .bool (nameB s) ∧ ρ = []) := by
  refine fn_of 14 Try.func50 rfl Try.ntmps50 rfl ?_
  refine w_seq ?_
  refine w_region ?_
  refine wl_det rfl rfl rfl (op_assign rfl) ?_
  refine wl_nil ?_
  refine st_tn ?_
  refine w_seq ?_
  refine w_region ?_
  refine wl_det rfl rfl rfl (op_move rfl) ?_
  refine wl_det rfl rfl rfl (op_neBs rfl rfl) ?_
  refine wl_det rfl rfl rfl (op_move rfl) ?_
  refine wl_gsplit (t := 5) rfl (fun hg5 => ?_) (fun hg5 => ?_)
  · -- 5 is True
    refine wl_wanted_det rfl rfl rfl rfl rfl rfl rfl (op_move rfl) ?_
    refine wl_wanted_det rfl rfl rfl rfl rfl rfl rfl (op_lenBs rfl Try.underlying9) ?_
    refine wl_wanted_det rfl rfl rfl rfl rfl rfl rfl (op_leq rfl rfl) ?_
    refine wl_det rfl rfl rfl (op_pick_t rfl rfl) ?_
    refine wl_det rfl rfl rfl (op_move rfl) ?_
    refine wl_gsplit (t := 10) rfl (fun hg10 => ?_) (fun hg10 => ?_)
    · -- 10 is True
      refine wl_wanted_det rfl rfl rfl rfl rfl rfl rfl (op_move rfl) ?_
      refine wl_wanted_det rfl rfl rfl rfl rfl rfl rfl (op_fn Try.func69 rfl rfl rfl (within_any _ _ _ (by assumption) (by omega) (by omega))) ?_
      refine wl_det rfl rfl rfl (op_pick_t rfl rfl) ?_
      refine wl_det rfl rfl rfl (op_assign rfl) ?_
      refine wl_nil ?_
      refine st_tn ?_
      refine w_ret ?_
      refine st_ret (vs := [_]) [] Try.results50 ⟨rfl, trivial⟩ rfl ?_
      refine ⟨_, rfl, ?_⟩
      refine ⟨?_, rfl⟩
      rw [nameB_iff]
      first | (simp [retv, *]; done) | (simp [retv, *]; omega) | (simp_all [retv]; done)
    · -- 10 is False
      refine wl_unwanted rfl rfl rfl rfl rfl rfl rfl rfl ?_
      refine wl_unwanted rfl rfl rfl rfl rfl rfl rfl rfl ?_
      refine wl_det rfl rfl rfl (op_pick_f rfl rfl) ?_
      refine wl_det rfl rfl rfl (op_assign rfl) ?_
      refine wl_nil ?_
      refine st_tn ?_
      refine w_ret ?_
      refine st_ret (vs := [_]) [] Try.results50 ⟨rfl, trivial⟩ rfl ?_
      refine ⟨_, rfl, ?_⟩
      refine ⟨?_, rfl⟩
      rw [nameB_iff]
      first | (simp [retv, *]; done) | (simp [retv, *]; omega) | (simp_all [retv]; done)
  · -- 5 is False
    refine wl_unwanted rfl rfl rfl rfl rfl rfl rfl rfl ?_
    refine wl_unwanted rfl rfl rfl rfl rfl rfl rfl rfl ?_
    refine wl_unwanted rfl rfl rfl rfl rfl rfl rfl rfl ?_
    refine wl_det rfl rfl rfl (op_pick_f rfl rfl) ?_
    refine wl_det rfl rfl rfl (op_move rfl) ?_
    refine wl_unwanted rfl rfl rfl rfl rfl rfl rfl rfl ?_
    refine wl_unwanted rfl rfl rfl rfl rfl rfl rfl rfl ?_
    refine wl_det rfl rfl rfl (op_pick_f rfl rfl) ?_
    refine wl_det rfl rfl rfl (op_assign rfl) ?_
    refine wl_nil ?_
    refine st_tn ?_
    refine w_ret ?_
    refine st_ret (vs := [_]) [] Try.results50 ⟨rfl, trivial⟩ rfl ?_
    refine ⟨_, rfl, ?_⟩
    refine ⟨?_, rfl⟩
    rw [nameB_iff]
    first | (simp [retv, *]; done) | (simp [retv, *]; omega) | (simp_all [retv]; done)

/-- The cells of a disk. -/
def cellD (s : St) (m : Nat) : List Value := [.int .i64 s.cap, .map (some m), .bool s.down, .bool s.lim, .int .i64 s.left]
theorem celD {σ : World} {F : List Res} {R : RL} {b : Nat} {s : St} {m : Nat} (lab : Nat) (h : getL R lab = some (cel b (cellD s m) 90)) : Ent σ (rs R ++ F) (At ⟨b, 0, none⟩ (cellD s m)) := Ent.lab h (says_cel 0)
-- CALL sleuth/attribute.IsName isName_any _ (by assumption)
set_option maxHeartbeats 400000 in
set_option maxRecDepth 100000 in
theorem ready_any {σ : World} {F : List Res} {b m : Nat} {s : St} {a : Option Addr} {c : Nat} {l : List Bs} (hd : Ent σ F (At ⟨b, 0, none⟩ (cellD s m))) (h : Sl σ F encT 1 (.slice a l.length c) l) (hl : ∀ x ∈ l, x.length ≤ maxLen) :
    FnT Try.prog σ F 62 [.pointer (some ⟨b, 0, none⟩), .slice a l.length c] [] (fun u ρ => u = .int .i64 (readyE s l) ∧ ρ = []) := by
  refine fn_of 25 Try.func62 rfl Try.ntmps62 rfl ?_
  have hle := h.i64
  refine w_seq ?_
  refine w_region ?_
  refine wl_det rfl rfl rfl (op_assign rfl) ?_
  refine wl_nil ?_
  refine st_tn ?_
  refine w_seq ?_
  refine w_block ?_
  refine w_seq ?_
  refine w_region ?_
  refine wl_det rfl rfl rfl (op_move rfl) ?_
  refine wl_det rfl rfl rfl (op_val (v' := .bool false) (by simp) (op_eqPtr rfl Try.underlying22)) ?_
  refine wl_det rfl rfl rfl (op_assign rfl) ?_
  refine wl_nil ?_
  refine st_tn ?_
  refine w_cond_f (rfl) ?_
  refine w_seq ?_
  refine w_region ?_
  refine wl_det rfl rfl rfl (op_move rfl) ?_
  refine wl_det rfl rfl rfl (op_nilCheck rfl) ?_
  refine wl_det rfl rfl rfl (op_fieldAddr (off := 2) rfl tF90_2a) ?_
  refine wl_det rfl rfl rfl (op_load1 rfl tO4a (Ent.app (Ent.fld hd 2) _)) ?_
  refine wl_det rfl rfl rfl (op_assign rfl) ?_
  refine wl_nil ?_
  refine st_tn ?_
  refine w_cond rfl (fun hc10 => ?_) (fun hc10 => ?_)
  · -- c10.t
    refine w_seq ?_
    refine w_region ?_
    refine wl_det rfl rfl rfl (op_assign rfl) ?_
    refine wl_nil ?_
    refine st_tn ?_
    refine w_ret ?_
    refine st_br ?_
    refine st_tr ?_
    refine st_ret (vs := [_]) [] Try.results62 ⟨rfl, trivial⟩ rfl ?_
    refine ⟨_, rfl, ?_⟩
    refine ⟨?_, rfl⟩; unfold readyE; simp [retv, hc10]
  · -- c10.f
    refine w_skip ?_
    refine st_bn ?_
    refine st_tn ?_
    refine w_seq ?_
    refine w_seq ?_
    refine w_region ?_
    refine wl_det rfl rfl rfl (op_move rfl) ?_
    refine wl_det rfl rfl rfl (op_lenT rfl tS35a (Sl.ent (by first | exact Sl.app (by assumption) _ | exact Sl.app (Sl.app (by assumption) _) _))) ?_
    refine wl_det rfl rfl rfl (op_move rfl) ?_
    refine wl_nil ?_
    refine st_tn ?_
    refine w_block ?_
    refine w_loopQ (X := Nat) (fun z => z ≤ l.length ∧ ∀ x ∈ l.take z, nameB x = true) (fun z => [(17, .int .i64 (z))]) (fun _ => []) (fun z => l.length - z) (0) [(15, _), (16, _)] [] [] rfl (rfl) (.cons rfl (.nil _)) (.cons rfl (.cons rfl (.nil _))) (by
        try dsimp only
        exact ⟨Nat.zero_le _, by simp⟩) ?_
    rintro i ⟨hi, hn⟩
    refine w_norm2 (by dsimp only [List.cons_append, List.nil_append]) (by dsimp only [List.cons_append, List.nil_append]) ?_
    try dsimp only at hi hn ⊢
    refine w_seq ?_
    refine w_region ?_
    refine wl_det rfl rfl rfl (op_lss rfl rfl) ?_
    refine wl_nil ?_
    refine st_tn ?_
    refine w_seq ?_
    refine w_cond_d rfl (fun hc18 => ?_) (fun hc18 => ?_)
    · -- c18.t
      obtain ⟨x, hx⟩ := getE (l := l) (i := i) (by omega)
      have hxl := hl x (List.mem_of_getElem? hx)
      refine w_skip ?_
      refine st_tn ?_
      refine w_seq ?_
      refine w_block ?_
      refine w_seq ?_
      refine w_region ?_
      refine wl_det rfl rfl rfl (op_idx rfl rfl tS35a (Sl.ent (by first | exact Sl.app (by assumption) _ | exact Sl.app (Sl.app (by assumption) _) _)) (by omega)) ?_
      refine wl_det rfl rfl rfl (op_ldx rfl tO9a (by first | exact Sl.app (by assumption) _ | exact Sl.app (Sl.app (by assumption) _) _) (by assumption) (by rfl)) ?_
      refine wl_det rfl rfl rfl (op_assign rfl) ?_
      refine wl_nil ?_
      refine st_tn ?_
      refine w_seq ?_
      refine w_region ?_
      refine wl_det rfl rfl rfl (op_move rfl) ?_
      refine wl_det rfl rfl rfl (op_fn Try.func50 rfl rfl rfl (isName_any _ (by assumption))) ?_
      refine wl_det rfl rfl rfl (op_not rfl) ?_
      refine wl_nil ?_
      refine st_tn ?_
      refine w_cond rfl (fun hc23 => ?_) (fun hc23 => ?_)
      · -- c23.t
        refine w_seq ?_
        refine w_region ?_
        refine wl_det rfl rfl rfl (op_assign rfl) ?_
        refine wl_nil ?_
        refine st_tn ?_
        refine w_ret ?_
        refine st_br ?_
        refine st_tr ?_
        refine st_tr ?_
        refine st_br ?_
        refine st_tr ?_
        refine st_ret (vs := [_]) [] Try.results62 ⟨rfl, trivial⟩ rfl ?_
        refine ⟨_, rfl, ?_⟩
        refine ⟨?_, rfl⟩
        have hdn : s.down = false := by simpa using hc10
        simp only [retv]; unfold readyE
        first | (have hnx : nameB x = false := by simpa using hc23
                 have : ¬ ∀ y ∈ l, nameB y = true := fun h => by rw [h x (List.mem_of_getElem? hx)] at hnx; simp at hnx
                 simp [hdn, this]; done) | (rw [take_all (by omega)] at hn; rw [if_neg (by simp [hdn]), if_pos (List.all_eq_true.2 hn)])
      · -- c23.f
        refine w_skip ?_
        refine st_bn ?_
        refine st_tn ?_
        refine w_region ?_
        refine wl_det rfl rfl rfl (op_add' rfl rfl (by omega)) ?_
        refine wl_det rfl rfl rfl (op_move rfl) ?_
        refine wl_nil ?_
        refine st_roundQ (x := i) (i + 1) [] rfl (rfl) (.cons rfl (.nil _)) (.cons rfl (.cons rfl (.nil _))) (by
            try dsimp only
            refine ⟨by omega, by rw [take_snoc hx]; intro q hq; rcases List.mem_append.1 hq with hq | hq; (· exact hn q hq); (· simp only [List.mem_singleton] at hq; subst hq; simpa using hc23)⟩) (by
            try dsimp only
            omega) 
    · -- c18.f
      refine w_exit ?_
      refine st_te ?_
      refine st_te ?_
      refine st_be ?_
      refine st_tn ?_
      refine w_seq ?_
      refine w_region ?_
      refine wl_det rfl rfl rfl (op_assign rfl) ?_
      refine wl_nil ?_
      refine st_tn ?_
      refine w_ret ?_
      refine st_ret (vs := [_]) [] Try.results62 ⟨rfl, trivial⟩ rfl ?_
      refine ⟨_, rfl, ?_⟩
      refine ⟨?_, rfl⟩
      have hdn : s.down = false := by simpa using hc10
      simp only [retv]; unfold readyE
      first | (have hnx : nameB x = false := by simpa using hc23
               have : ¬ ∀ y ∈ l, nameB y = true := fun h => by rw [h x (List.mem_of_getElem? hx)] at hnx; simp at hnx
               simp [hdn, this]; done) | (rw [take_all (by omega)] at hn; rw [if_neg (by simp [hdn]), if_pos (List.all_eq_true.2 hn)])

set_option maxHeartbeats 400000 in
set_option maxRecDepth 100000 in
theorem operate_any {σ : World} {F : List Res} {b m : Nat} (s : St) (hg : DskM.Good s) :
    FnT Try.prog σ F 64 [.pointer (some ⟨b, 0, none⟩)] [(601, cel b (cellD s m) 90)] (fun u ρ => u = .bool (oper s).1 ∧ ρ = [(601, cel b (cellD (oper s).2 m) 90)]) := by
  refine fn_of 23 Try.func64 rfl Try.ntmps64 rfl ?_
  have hlo := hg.lo
  have hhi := hg.hi
  refine w_seq ?_
  refine w_region ?_
  refine wl_det rfl rfl rfl (op_assign rfl) ?_
  refine wl_nil ?_
  refine st_tn ?_
  refine w_seq ?_
  refine w_seq ?_
  refine w_region ?_
  refine wl_det rfl rfl rfl (op_move rfl) ?_
  refine wl_det rfl rfl rfl (op_nilCheck rfl) ?_
  refine wl_det rfl rfl rfl (op_fieldAddr (off := 3) rfl tF90_3a) ?_
  refine wl_det rfl rfl rfl (op_load1 rfl tO4a (Ent.lab (l := 601) rfl (says_cel 3))) ?_
  refine wl_det rfl rfl rfl (op_not rfl) ?_
  refine wl_nil ?_
  refine st_tn ?_
  refine w_cond rfl (fun hc7 => ?_) (fun hc7 => ?_)
  · -- c7.t
    refine w_seq ?_
    refine w_region ?_
    refine wl_det rfl rfl rfl (op_assign rfl) ?_
    refine wl_nil ?_
    refine st_tn ?_
    refine w_ret ?_
    refine st_tr ?_
    refine st_ret (vs := [_]) [601] Try.results64 ⟨rfl, trivial⟩ rfl ?_
    refine ⟨[(601, _)], rfl, ?_⟩
    have : s.lim = false := by simpa using hc7
    have h : oper s = (true, s) := by simp [oper, this]
    rw [h]; exact ⟨rfl, rfl⟩
  · -- c7.f
    refine w_skip ?_
    refine st_tn ?_
    refine w_seq ?_
    refine w_seq ?_
    refine w_region ?_
    refine wl_det rfl rfl rfl (op_move rfl) ?_
    refine wl_det rfl rfl rfl (op_nilCheck rfl) ?_
    refine wl_det rfl rfl rfl (op_fieldAddr (off := 4) rfl tF90_4a) ?_
    refine wl_det rfl rfl rfl (op_load1 rfl tO3a (Ent.lab (l := 601) rfl (says_cel 4))) ?_
    refine wl_det rfl rfl rfl (op_leq rfl rfl) ?_
    refine wl_nil ?_
    refine st_tn ?_
    refine w_cond_d rfl (fun hc12 => ?_) (fun hc12 => ?_)
    · -- c12.t
      refine w_seq ?_
      refine w_region ?_
      refine wl_det rfl rfl rfl (op_move rfl) ?_
      refine wl_det rfl rfl rfl (op_nilCheck rfl) ?_
      refine wl_det rfl rfl rfl (op_fieldAddr (off := 2) rfl tF90_2a) ?_
      refine wl_op0 [601] rfl rfl rfl (op_store rfl rfl tZ4a (by rfl) (by rfl) (by exact Nat.le_of_ble_eq_true rfl)) ?_
      rintro _ _ ⟨rfl, rfl⟩
      refine wl_nil ?_
      refine st_tn ?_
      refine w_seq ?_
      refine w_region ?_
      refine wl_det rfl rfl rfl (op_assign rfl) ?_
      refine wl_nil ?_
      refine st_tn ?_
      refine w_ret ?_
      refine st_tr ?_
      refine st_ret (vs := [_]) [601] Try.results64 ⟨rfl, trivial⟩ rfl ?_
      refine ⟨[(601, _)], rfl, ?_⟩
      have : s.lim = true := by simpa using hc7
      have h : oper s = (false, { s with down := true }) := by simp [oper, this, hc12]
      rw [h]; exact ⟨rfl, rfl⟩
    · -- c12.f
      refine w_skip ?_
      refine st_tn ?_
      refine w_seq ?_
      refine w_region ?_
      refine wl_det rfl rfl rfl (op_move rfl) ?_
      refine wl_det rfl rfl rfl (op_nilCheck rfl) ?_
      refine wl_det rfl rfl rfl (op_fieldAddr (off := 4) rfl tF90_4a) ?_
      refine wl_det rfl rfl rfl (op_load1 rfl tO3a (Ent.lab (l := 601) rfl (says_cel 4))) ?_
      refine wl_det rfl rfl rfl (op_sub' rfl rfl (by omega)) ?_
      refine wl_det rfl rfl rfl (op_nilCheck rfl) ?_
      refine wl_det rfl rfl rfl (op_fieldAddr (off := 4) rfl tF90_4a) ?_
      refine wl_op0 [601] rfl rfl rfl (op_store rfl rfl tZ3a (by rfl) (by rfl) (by exact Nat.le_of_ble_eq_true rfl)) ?_
      rintro _ _ ⟨rfl, rfl⟩
      refine wl_nil ?_
      refine st_tn ?_
      refine w_seq ?_
      refine w_region ?_
      refine wl_det rfl rfl rfl (op_assign rfl) ?_
      refine wl_nil ?_
      refine st_tn ?_
      refine w_ret ?_
      refine st_ret (vs := [_]) [601] Try.results64 ⟨rfl, trivial⟩ rfl ?_
      refine ⟨[(601, _)], rfl, ?_⟩
      have : s.lim = true := by simpa using hc7
      have h : oper s = (true, { s with left := s.left - 1 }) := by simp [oper, this, hc12]
      rw [h]; exact ⟨rfl, rfl⟩

end Go.Proofs.Ytcbigmgakdanjaa
namespace Go.Proofs.Ytcbigmgakdanjaa
open Go Go.SL Go.RowKit Go.DskM
set_option linter.unusedVariables false
set_option linter.unusedSimpArgs false
theorem tA93b : aggB Try.prog 93 3 = true := by kernel_rfl
theorem tB93b : placesB Try.prog 93 = some ([(0, 1), (1, 1), (2, 1)], [Value.string .empty, Value.int .i64 0, Value.bool false]) := by kernel_rfl
theorem tF90_1b : fieldB Try.prog 90 1 1 = true := by kernel_rfl
theorem tF93_0b : fieldB Try.prog 93 0 0 = true := by kernel_rfl
theorem tL35_1b : zerosB Try.prog 35 9 1 1 = some [Value.string .empty] := by kernel_rfl
theorem tN93b : (Try.prog.info? 93).bind (·.zero) = some (Value.agg #[Value.string .empty, Value.int .i64 0, Value.bool false]) := by kernel_rfl
theorem tO88b : oneB Try.prog 88 = true := by kernel_rfl
theorem tO9b : oneB Try.prog 9 = true := by kernel_rfl
theorem tQ88b : mapB Try.prog 88 9 93 KL.desc := ⟨Try.underlying88, Try.underlying9⟩
theorem tZ93b : (Try.prog.info? 93).map (·.size) = some 3 := by kernel_rfl

theorem Sl.nilv {σ : World} {F : List Res} {α : Type} {enc : α → List Value} {k : Nat} : Sl σ F enc k (.slice none 0 0) ([] : List α) := ⟨fun w hw => ⟨by simp, by simp, .inl ⟨_, _, rfl, rfl⟩⟩, by simp [maxLen]⟩
def keysOf (fs : Files) : List Bs := fs.map Prod.fst
theorem sortsS_in (m : Nat) : AnyZ.SortsIn Try.prog Try.sorted60_ren Fence.wide m :=
  ⟨fun blk off cap ss W hH hblk hsz => callsIn_wide.2 (Try.slices_Sort_string blk off cap ss W hH hblk hsz), fun p cap W => callsIn_wide.2 (Try.slices_Sort_string_none p cap W)⟩
theorem flat_T (l : List Bs) : (l.map encT).flatten = l.map encStr := flat_one (enc0 := encStr) (enc := encT) (fun _ => rfl) l
theorem sort_inc {l : List Bs} {fs : Files} (h : l.Perm (keysOf fs)) (hi : DskM.Inc fs) : l.mergeSort (fun x y => decide (x ≤ y)) = keysOf fs := by
  have tr : ∀ a b c : Bs, decide (a ≤ b) = true → decide (b ≤ c) = true → decide (a ≤ c) = true := fun a b c h1 h2 => by simp only [decide_eq_true_eq] at *; exact List.le_trans h1 h2
  have to : ∀ a b : Bs, (decide (a ≤ b) || decide (b ≤ a)) = true := fun a b => by simp only [Bool.or_eq_true, decide_eq_true_eq]; exact List.le_total a b
  refine List.Perm.eq_of_pairwise (le := fun a b => decide (a ≤ b) = true) (fun a b _ _ h1 h2 => ?_) (List.pairwise_mergeSort tr to l) ?_ ((List.mergeSort_perm l _).trans h)
  · simp only [decide_eq_true_eq] at h1 h2; exact List.le_antisymm h1 h2
  · exact (DskM.Inc.keys hi).imp fun h => decide_eq_true (List.not_lt.1 (lt_asymm h))
theorem gives_files {σ : World} {F : List Res} {b bb : Nat} {l : Files} (hb : Ent σ F (At ⟨bb, 0, none⟩ [.map (some b)])) (hm : Mr σ F KL encF (.map (some b)) l) (hk : ∀ p ∈ l, p.1.length ≤ maxLen) (hl : l.length ≤ 256) {w : World} (ho : SL.Own σ F w) (n : Nat) (hn : 1 ≤ n) :
    ∃ D : DataW Unit, Maps.size D = l.length ∧ (strKeys D).Perm (l.map Prod.fst) ∧ SeqGives Fence.wide n Try.prog 79 #[.pointer (some ⟨bb, 0, none⟩)] encStr (fun ss => ss.Perm (strKeys D)) (Maps.size D) w := by
  obtain ⟨b', o', e, hr⟩ := hb w ho
  cases e
  have hcell := hr 0 (.map (some b)) rfl
  rcases hm w ho with ⟨h1, _⟩ | ⟨b2, bs, clock, h1, h2, h3⟩
  · cases h1
  · cases h1
    obtain ⟨D, h4, h5, h6⟩ := ownsS_of Try.underlying9 h2 h3 hk (by unfold maxLen; omega)
    exact ⟨D, h5, h6, AnyZ.keys_gives (ρ := Try.keys61_ren) { Try.keys61 with } Fence.wide n trivial rfl hn bb b l.length D w (cell_lt hcell) hcell h4⟩
theorem sortedK {σ : World} {F : List Res} {b bb : Nat} {l fs : Files} (lab : Nat) (hb : Ent σ F (At ⟨bb, 0, none⟩ [.map (some b)])) (hm : Mr σ F KL encF (.map (some b)) l) (hp : l.Perm fs) (hi : DskM.Inc fs) (hk : ∀ p ∈ fs, p.1.length ≤ maxLen) (hl : fs.length ≤ 256) :
    FnT Try.prog σ F 60 [.func (.func 79) #[] #[.pointer (some ⟨bb, 0, none⟩)]] [] (fun u ρ => ∃ a c, u = .slice a (keysOf fs).length c ∧ ρ = [(lab, slW 9 encT 1 (.slice a (keysOf fs).length c) (keysOf fs))]) := by
  intro w ho
  have ho' : SL.Own σ F w := ho
  obtain ⟨D, h1, h2, hseq⟩ := gives_files hb hm (fun p h => hk p (hp.mem_iff.1 h)) (by rw [hp.length_eq]; exact hl) ho' 2 (by omega)
  have hll := hp.length_eq
  refine ((callsIn_wide (n := 5)).1 (AnyZ.sorted_in Try.sorted60 Fence.wide 5 trivial trivial trivial trivial rfl (by omega) (sortsS_in _) (enters_of Try.func78 (by kernel_rfl) rfl) 79 #[.pointer (some ⟨bb, 0, none⟩)] trivial (enters_of Try.func79 (by kernel_rfl) rfl) _ _ (by rw [h1]; unfold maxLen; omega) (by rw [h1]; omega) w hseq)).mono ?_
  rintro e W' ⟨u, ss, rfl, hS, hrow, _, hbel⟩
  have hsort := sort_inc ((hS.trans h2).trans (hp.map Prod.fst)) hi
  have hlen : ss.length = (keysOf fs).length := by rw [((hS.trans h2).trans (hp.map Prod.fst)).length_eq]; rfl
  rw [hsort, hlen, ← flat_T] at hrow
  obtain ⟨a, c, rfl, hown⟩ := own_row ho' hbel hrow (fun _ => rfl) (by rw [keysOf, List.length_map]; unfold maxLen; omega)
  exact ⟨_, _, rfl, ⟨a, c, rfl, rfl⟩, hown⟩
set_option maxHeartbeats 400000 in
set_option maxRecDepth 100000 in
theorem keys_any {σ : World} {F : List Res} {m : Nat} (lab : Nat) :
    FnT Try.prog σ F 61 [.map (some m)] [] (fun u ρ => ∃ bb, u = .func (.func 79) #[] #[.pointer (some ⟨bb, 0, none⟩)] ∧ ρ = [(lab, cel bb [.map (some m)] 88)]) := by
  refine fn_of 4 Try.func61 rfl Try.ntmps61 rfl ?_
  refine w_seq ?_
  refine w_region ?_
  refine wl_op [] rfl rfl rfl rfl (op_box (T := 88) (l := 1) rfl) ?_
  rintro _ _ ⟨b1, rfl, rfl⟩
  refine wl_det rfl rfl rfl (op_assign rfl) ?_
  refine wl_nil ?_
  refine st_tn ?_
  refine w_seq ?_
  refine w_region ?_
  refine wl_det rfl rfl rfl (op_makeFunc rfl rfl) ?_
  refine wl_det rfl rfl rfl (op_assign rfl) ?_
  refine wl_nil ?_
  refine st_tn ?_
  refine w_ret ?_
  refine st_ret (vs := [_]) [1] Try.results61 ⟨rfl, trivial⟩ rfl ?_
  refine ⟨[(lab, _)], rfl, ?_⟩
  exact ⟨_, rfl, rfl⟩

theorem name_len {s : St} (hg : DskM.Good s) : ∀ p ∈ s.fs, p.1.length ≤ maxLen := fun p hp => by
  have := hg.nam p hp
  rw [nameB_iff] at this
  have := (of_decide_eq_true this).2.1
  unfold maxLen; omega
theorem look_fs {s : St} {l : Files} (hg : DskM.Good s) (hp : l.Perm s.fs) (k : Bs) : lookK KL l k = find s.fs k := look_perm hp ((hp.map Prod.fst).nodup_iff.2 hg.inc.nod) k
theorem len_fs {s : St} {l : Files} (hg : DskM.Good s) (hp : l.Perm s.fs) : l.length ≤ 256 := by rw [hp.length_eq]; exact hg.cnt
set_option maxHeartbeats 400000 in
set_option maxRecDepth 100000 in
theorem used_any {σ : World} {F : List Res} {b m : Nat} {s : St} {l : Files} {bs : List Nat} {ck : Nat} (hg : DskM.Good s) (hp : l.Perm s.fs) (hd : Ent σ F (At ⟨b, 0, none⟩ (cellD s m))) (hm : Me σ F KL encF m l bs ck) :
    FnT Try.prog σ F 63 [.pointer (some ⟨b, 0, none⟩)] [] (fun u ρ => u = .int .i64 (if s.down = true then 0 else (used s.fs : Int)) ∧ ρ = []) := by
  refine fn_of 24 Try.func63 rfl Try.ntmps63 rfl ?_
  have hlen := len_fs hg hp
  have huse := hg.use
  have hcap := hg.cap
  have hul := used_perm hp
  refine w_seq ?_
  refine w_region ?_
  refine wl_det rfl rfl rfl (op_assign rfl) ?_
  refine wl_nil ?_
  refine st_tn ?_
  refine w_seq ?_
  refine w_seq ?_
  refine w_region ?_
  refine wl_det rfl rfl rfl (op_move rfl) ?_
  refine wl_det rfl rfl rfl (op_fn Try.func62 rfl rfl rfl (ready_any (s := s) (m := m) (l := []) (Ent.app hd _) Sl.nilv (by simp))) ?_
  refine wl_det rfl rfl rfl (op_neq rfl rfl) ?_
  refine wl_nil ?_
  refine st_tn ?_
  refine w_cond_d rfl (fun hc8 => ?_) (fun hc8 => ?_)
  · -- c8.t
    have hdn : s.down = true := by
      unfold readyE at hc8
      by_cases h : s.down = true
      · exact h
      · simp [h] at hc8
    refine w_seq ?_
    refine w_region ?_
    refine wl_det rfl rfl rfl (op_assign rfl) ?_
    refine wl_nil ?_
    refine st_tn ?_
    refine w_ret ?_
    refine st_tr ?_
    refine st_ret (vs := [_]) [] Try.results63 ⟨rfl, trivial⟩ rfl ?_
    refine ⟨_, rfl, ?_⟩
    exact ⟨by simp [retv, hdn], rfl⟩
  · -- c8.f
    have hdn : s.down = false := by
      unfold readyE at hc8
      by_cases h : s.down = true
      · simp [h] at hc8
      · simpa using h
    refine w_skip ?_
    refine st_tn ?_
    refine w_seq ?_
    refine w_region ?_
    refine wl_det rfl rfl rfl (op_assign rfl) ?_
    refine wl_nil ?_
    refine st_tn ?_
    refine w_seq ?_
    refine w_seq ?_
    refine w_region ?_
    refine wl_det rfl rfl rfl (op_move rfl) ?_
    refine wl_det rfl rfl rfl (op_nilCheck rfl) ?_
    refine wl_det rfl rfl rfl (op_fieldAddr (off := 1) rfl tF90_1b) ?_
    refine wl_det rfl rfl rfl (op_load1 rfl tO88b (Ent.app (Ent.fld hd 1) _)) ?_
    refine wl_op [] rfl rfl rfl rfl (op_range (kt := KL) (encV := encF) (lab := 13) rfl tQ88b (Ent.app hm _)) ?_
    rintro _ _ ⟨r13, rfl, rfl⟩
    refine wl_nil ?_
    refine st_tn ?_
    refine w_block ?_
    refine w_loopQ (X := List (Bs × Fl) × List (Bs × Fl) × Nat) (fun z => (z.1 ++ z.2.1).Perm l ∧ z.2.2 = used z.1) (fun z => [(3, .int .i64 (z.2.2))]) (fun z => [(13, itR r13 m l bs ck (z.1) (z.2.1))]) (fun z => z.2.1.length) (([], l, 0)) [(13, _)] [] [13] rfl (rfl) (.cons rfl (.nil _)) (.cons rfl (.nil _)) (by
        try dsimp only
        exact ⟨List.Perm.refl _, rfl⟩) ?_
    rintro ⟨dn_it, td_it, n⟩ ⟨hperm, hn⟩
    refine w_norm2 (by dsimp only [List.cons_append, List.nil_append]) (by dsimp only [List.cons_append, List.nil_append]) ?_
    try dsimp only at hperm hn ⊢
    refine w_seq ?_
    refine w_region ?_
    refine wl_op [13] rfl rfl rfl rfl (op_next (kt := KL) (encV := encF) (lab := 13) rfl (Ent.app hm _)) ?_
    rintro _ _ ⟨o14, dn14, td14, rfl, rfl, hn14⟩
    refine wl_det rfl rfl rfl (op_nextOk rfl) ?_
    refine wl_nil ?_
    refine st_tn ?_
    refine w_seq ?_
    refine w_cond rfl (fun hc15 => ?_) (fun hc15 => ?_)
    · -- c15.t
      obtain ⟨p, hpe⟩ := Option.isSome_iff_exists.1 hc15
      subst hpe
      obtain ⟨hdn14, hpt⟩ : dn14 = p :: dn_it ∧ td_it.Perm (p :: td14) := hn14
      subst hdn14
      have hu2 := used_perm (perm_next hperm hpt)
      have hu3 : used ((p :: dn_it) ++ td14) = p.2.data.length + used dn_it + used td14 := by simp [used, Nat.add_assoc]
      refine w_skip ?_
      refine st_tn ?_
      refine w_block ?_
      refine w_seq ?_
      refine w_region ?_
      refine wl_det rfl rfl rfl (op_entry (kt := KL) (encV := encF) rfl (Ent.app hm _) (It.lab 13 rfl)) ?_
      refine wl_det rfl rfl rfl (op_extract rfl rfl) ?_
      refine wl_op [] rfl rfl rfl rfl (op_alloc (l := 5) tN93b) ?_
      rintro _ _ ⟨b5, rfl, rfl⟩
      refine wl_op0 [5] rfl rfl rfl (op_store rfl rfl tZ93b (by rfl) (by rfl) (by exact Nat.le_of_ble_eq_true rfl)) ?_
      rintro _ _ ⟨rfl, rfl⟩
      refine wl_nil ?_
      refine st_tn ?_
      refine w_region ?_
      refine wl_det rfl rfl rfl (op_move rfl) ?_
      refine wl_det rfl rfl rfl (op_fieldAddr (off := 0) rfl tF93_0b) ?_
      refine wl_det rfl rfl rfl (op_load1 rfl tO9b (Ent.lab (l := 5) rfl (says_cel 0))) ?_
      refine wl_det rfl rfl rfl (op_lenBs rfl Try.underlying9) ?_
      refine wl_det rfl rfl rfl (op_add' rfl rfl (by omega)) ?_
      refine wl_det rfl rfl rfl (op_assign rfl) ?_
      refine wl_nil ?_
      refine st_bn ?_
      refine st_roundQ (x := (dn_it, td_it, n)) ((_, _, n + p.2.data.length)) [13] rfl (rfl) (.cons rfl (.nil _)) (.cons rfl (.nil _)) (by
          try dsimp only
          exact ⟨perm_next hperm hpt, by rw [used_cons]; omega⟩) (by
          try dsimp only
          have := hpt.length_eq; simp at this; omega) 
    · -- c15.f
      have ho : o14 = none := by simpa using hc15
      subst ho
      obtain ⟨htd, hdn14, htd14⟩ : td_it = [] ∧ dn14 = dn_it ∧ td14 = [] := hn14
      subst htd
      rw [List.append_nil] at hperm
      refine w_exit ?_
      refine st_te ?_
      refine st_te ?_
      refine st_be ?_
      refine st_tn ?_
      refine w_seq ?_
      refine w_region ?_
      refine wl_det rfl rfl rfl (op_move rfl) ?_
      refine wl_det rfl rfl rfl (op_assign rfl) ?_
      refine wl_nil ?_
      refine st_tn ?_
      refine w_ret ?_
      refine st_ret (vs := [_]) [] Try.results63 ⟨rfl, trivial⟩ rfl ?_
      refine ⟨_, rfl, ?_⟩
      exact ⟨by rw [used_perm hperm] at hn; simp [retv, hdn, hn, used_perm hp], rfl⟩

/-- What find finds. -/
def findO (s : St) (n : Bs) : Fl × Int := if readyE s [n] ≠ 0 then (zeroF, readyE s [n]) else match find s.fs n with | none => (zeroF, 10) | some f => (f, 0)
theorem look_val {s : St} {l : Files} {n : Bs} {f : Fl} {z : Value} (h : lookK KL l n = find s.fs n) (hf : find s.fs n = some f) : Value.tuple #[((lookK KL l n).map encF).getD z, .bool (lookK KL l n).isSome] = .tuple #[encF f, .bool true] := by rw [h, hf]; rfl
theorem look_val0 {s : St} {l : Files} {n : Bs} {z : Value} (h : lookK KL l n = find s.fs n) (hf : find s.fs n = none) : Value.tuple #[((lookK KL l n).map encF).getD z, .bool (lookK KL l n).isSome] = .tuple #[z, .bool false] := by rw [h, hf]; rfl
set_option maxHeartbeats 400000 in
set_option maxRecDepth 100000 in
theorem find_any {σ : World} {F : List Res} {b m : Nat} {s : St} {l : Files} (n : Bs) (hg : DskM.Good s) (hp : l.Perm s.fs) (hn : n.length ≤ maxLen) (hd : Ent σ F (At ⟨b, 0, none⟩ (cellD s m))) (hm' : Mr σ F KL encF (.map (some m)) l) :
    FnT Try.prog σ F 76 [.pointer (some ⟨b, 0, none⟩), .string (str n)] [] (fun u ρ => u = .tuple #[encF (findO s n).1, .int .i64 (findO s n).2] ∧ ρ = []) := by
  refine fn_of 30 Try.func76 rfl Try.ntmps76 rfl ?_
  have hlk := look_fs hg hp n
  refine w_seq ?_
  refine w_region ?_
  refine wl_op [] rfl rfl rfl rfl (op_alloc (l := 4) tN93b) ?_
  rintro _ _ ⟨b4, rfl, rfl⟩
  refine wl_det rfl rfl rfl (op_assign rfl) ?_
  refine wl_nil ?_
  refine st_tn ?_
  refine w_seq ?_
  refine w_seq ?_
  refine w_region ?_
  refine wl_det rfl rfl rfl (op_move rfl) ?_
  refine wl_det rfl rfl rfl (op_move rfl) ?_
  refine wl_op [] rfl rfl rfl rfl (op_buildSlice (enc := encT) (l := [_]) (lab := 11) tL35_1b rfl rfl (fun _ => rfl) rfl) ?_
  rintro _ _ ⟨a11, c11, rfl, rfl⟩
  refine wl_det rfl rfl rfl (op_fn Try.func62 rfl rfl rfl (ready_any (s := s) (m := m) (l := [n]) (Ent.app hd _) (Sl.lab 11 rfl (by simp [maxLen])) (by simpa using hn))) ?_
  refine wl_det rfl rfl rfl (op_assign rfl) ?_
  refine wl_nil ?_
  refine st_tn ?_
  refine w_seq ?_
  refine w_region ?_
  refine wl_det rfl rfl rfl (op_move rfl) ?_
  refine wl_det rfl rfl rfl (op_neq rfl rfl) ?_
  refine wl_nil ?_
  refine st_tn ?_
  refine w_cond_d rfl (fun hc14 => ?_) (fun hc14 => ?_)
  · -- c14.t
    refine w_seq ?_
    refine w_region ?_
    refine wl_det rfl rfl rfl (op_build tB93b rfl rfl) ?_
    refine wl_det rfl rfl rfl (op_move rfl) ?_
    refine wl_op0 [4] rfl rfl rfl (op_store rfl rfl tZ93b (by rfl) (by rfl) (by exact Nat.le_of_ble_eq_true rfl)) ?_
    rintro _ _ ⟨rfl, rfl⟩
    refine wl_det rfl rfl rfl (op_assign rfl) ?_
    refine wl_nil ?_
    refine st_tn ?_
    refine w_ret ?_
    refine st_tr ?_
    refine st_ret (vs := [_, _]) [] Try.results76 ⟨⟨_, rfl, Ent.mono (Ent.lab (l := 4) rfl (says_cel 0)) (fun _ h => run_load_agg tA93b h (Nat.le_of_ble_eq_true rfl))⟩, ⟨rfl, trivial⟩⟩ rfl ?_
    refine ⟨_, rfl, ?_⟩
    have h : findO s n = (zeroF, readyE s [n]) := by unfold findO; rw [if_pos hc14]
    rw [h]; exact ⟨rfl, rfl⟩
  · -- c14.f
    refine w_skip ?_
    refine st_tn ?_
    refine w_seq ?_
    by_cases hf : (find s.fs n).isSome = true
    · -- hf+
      obtain ⟨f, hff⟩ := Option.isSome_iff_exists.1 hf
      refine w_region ?_
      refine wl_det rfl rfl rfl (op_move rfl) ?_
      refine wl_det rfl rfl rfl (op_nilCheck rfl) ?_
      refine wl_det rfl rfl rfl (op_fieldAddr (off := 1) rfl tF90_1b) ?_
      refine wl_det rfl rfl rfl (op_load1 rfl tO88b (Ent.app (Ent.fld hd 1) _)) ?_
      refine wl_det rfl rfl rfl (op_move rfl) ?_
      refine wl_det rfl rfl rfl (op_val (v' := .tuple #[encF f, .bool true]) (by exact look_val hlk hff) (op_lookup2 (kt := KL) (encV := encF) rfl rfl tQ88b tN93b (Ent.app hm' _))) ?_
      refine wl_det rfl rfl rfl (op_move rfl) ?_
      refine wl_det rfl rfl rfl (op_extract rfl rfl) ?_
      refine wl_det rfl rfl rfl (op_extract rfl rfl) ?_
      refine wl_op [] rfl rfl rfl rfl (op_alloc (l := 7) tN93b) ?_
      rintro _ _ ⟨b7, rfl, rfl⟩
      refine wl_op0 [7] rfl rfl rfl (op_store rfl rfl tZ93b (by rfl) (by rfl) (by exact Nat.le_of_ble_eq_true rfl)) ?_
      rintro _ _ ⟨rfl, rfl⟩
      refine wl_det rfl rfl rfl (op_assign rfl) ?_
      refine wl_nil ?_
      refine st_tn ?_
      refine w_seq ?_
      refine w_seq ?_
      refine w_region ?_
      refine wl_det rfl rfl rfl (op_move rfl) ?_
      refine wl_det rfl rfl rfl (op_not_t rfl) ?_
      refine wl_nil ?_
      refine st_tn ?_
      refine w_cond_f (rfl) ?_
      refine w_skip ?_
      refine st_tn ?_
      refine w_seq ?_
      refine w_region ?_
      refine wl_det rfl rfl rfl (op_loadA rfl tA93b (Ent.lab (l := 7) rfl (says_cel 0)) (Nat.le_of_ble_eq_true rfl)) ?_
      refine wl_op0 [4] rfl rfl rfl (op_store rfl rfl tZ93b (by rfl) (by rfl) (by exact Nat.le_of_ble_eq_true rfl)) ?_
      rintro _ _ ⟨rfl, rfl⟩
      refine wl_det rfl rfl rfl (op_assign rfl) ?_
      refine wl_nil ?_
      refine st_tn ?_
      refine w_ret ?_
      refine st_ret (vs := [_, _]) [] Try.results76 ⟨⟨_, rfl, Ent.mono (Ent.lab (l := 4) rfl (says_cel 0)) (fun _ h => run_load_agg tA93b h (Nat.le_of_ble_eq_true rfl))⟩, ⟨rfl, trivial⟩⟩ rfl ?_
      refine ⟨_, rfl, ?_⟩
      have h : findO s n = (f, 0) := by unfold findO; rw [if_neg hc14, hff]
      rw [h]; exact ⟨rfl, rfl⟩
    · -- hf-
      have hff : find s.fs n = none := by simpa using hf
      refine w_region ?_
      refine wl_det rfl rfl rfl (op_move rfl) ?_
      refine wl_det rfl rfl rfl (op_nilCheck rfl) ?_
      refine wl_det rfl rfl rfl (op_fieldAddr (off := 1) rfl tF90_1b) ?_
      refine wl_det rfl rfl rfl (op_load1 rfl tO88b (Ent.app (Ent.fld hd 1) _)) ?_
      refine wl_det rfl rfl rfl (op_move rfl) ?_
      refine wl_det rfl rfl rfl (op_val (v' := .tuple #[encF zeroF, .bool false]) (by exact look_val0 hlk hff) (op_lookup2 (kt := KL) (encV := encF) rfl rfl tQ88b tN93b (Ent.app hm' _))) ?_
      refine wl_det rfl rfl rfl (op_move rfl) ?_
      refine wl_det rfl rfl rfl (op_extract rfl rfl) ?_
      refine wl_det rfl rfl rfl (op_extract rfl rfl) ?_
      refine wl_op [] rfl rfl rfl rfl (op_alloc (l := 7) tN93b) ?_
      rintro _ _ ⟨b7, rfl, rfl⟩
      refine wl_op0 [7] rfl rfl rfl (op_store rfl rfl tZ93b (by rfl) (by rfl) (by exact Nat.le_of_ble_eq_true rfl)) ?_
      rintro _ _ ⟨rfl, rfl⟩
      refine wl_det rfl rfl rfl (op_assign rfl) ?_
      refine wl_nil ?_
      refine st_tn ?_
      refine w_seq ?_
      refine w_seq ?_
      refine w_region ?_
      refine wl_det rfl rfl rfl (op_move rfl) ?_
      refine wl_det rfl rfl rfl (op_not_f rfl) ?_
      refine wl_nil ?_
      refine st_tn ?_
      refine w_cond_t (rfl) ?_
      refine w_seq ?_
      refine w_region ?_
      refine wl_det rfl rfl rfl (op_build tB93b rfl rfl) ?_
      refine wl_op0 [4] rfl rfl rfl (op_store rfl rfl tZ93b (by rfl) (by rfl) (by exact Nat.le_of_ble_eq_true rfl)) ?_
      rintro _ _ ⟨rfl, rfl⟩
      refine wl_det rfl rfl rfl (op_assign rfl) ?_
      refine wl_nil ?_
      refine st_tn ?_
      refine w_ret ?_
      refine st_tr ?_
      refine st_ret (vs := [_, _]) [] Try.results76 ⟨⟨_, rfl, Ent.mono (Ent.lab (l := 4) rfl (says_cel 0)) (fun _ h => run_load_agg tA93b h (Nat.le_of_ble_eq_true rfl))⟩, ⟨rfl, trivial⟩⟩ rfl ?_
      refine ⟨_, rfl, ?_⟩
      have h : findO s n = (zeroF, 10) := by unfold findO; rw [if_neg hc14, hff]
      rw [h]; exact ⟨rfl, rfl⟩

end Go.Proofs.Ytcbigmgakdanjaa
namespace Go.Proofs.Ytcbigmgakdanjaa
open Go Go.SL Go.RowKit Go.DskM
set_option linter.unusedVariables false
set_option linter.unusedSimpArgs false
theorem tF90_1c : fieldB Try.prog 90 1 1 = true := by kernel_rfl
theorem tF90_2c : fieldB Try.prog 90 2 2 = true := by kernel_rfl
theorem tF90_3c : fieldB Try.prog 90 3 3 = true := by kernel_rfl
theorem tF90_4c : fieldB Try.prog 90 4 4 = true := by kernel_rfl
theorem tF93_0c : fieldB Try.prog 93 0 0 = true := by kernel_rfl
theorem tN93c : (Try.prog.info? 93).bind (·.zero) = some (Value.agg #[Value.string .empty, Value.int .i64 0, Value.bool false]) := by kernel_rfl
theorem tO4c : oneB Try.prog 4 = true := by kernel_rfl
theorem tO88c : oneB Try.prog 88 = true := by kernel_rfl
theorem tO9c : oneB Try.prog 9 = true := by kernel_rfl
theorem tZ3c : (Try.prog.info? 3).map (·.size) = some 1 := by kernel_rfl
theorem tZ4c : (Try.prog.info? 4).map (·.size) = some 1 := by kernel_rfl
theorem tZ93c : (Try.prog.info? 93).map (·.size) = some 3 := by kernel_rfl

theorem read_find (s : St) (n : Bs) (d : Bool) : readO s n d = (if d = true then (findO s n).1.data.take (findO s n).1.syn else (findO s n).1.data, (findO s n).2) := by
  unfold readO findO
  split
  · cases d <;> rfl
  · cases find s.fs n <;> cases d <;> rfl
theorem find_syn {s : St} (hg : DskM.Good s) (n : Bs) : (findO s n).1.syn ≤ (findO s n).1.data.length := by
  unfold findO
  split
  · exact Nat.le_refl _
  · cases hf : find s.fs n with
    | none => exact Nat.le_refl _
    | some f => exact hg.syn _ (find_mem hf)
-- CALL (*sleuth/disk.Disk).find find_any n hg hp hn (Ent.app hd _) (Ent.app hm' _)
set_option maxHeartbeats 400000 in
set_option maxRecDepth 100000 in
theorem read_any {σ : World} {F : List Res} {b m : Nat} {s : St} {l : Files} (n : Bs) (hg : DskM.Good s) (hp : l.Perm s.fs) (hn : n.length ≤ maxLen) (hd : Ent σ F (At ⟨b, 0, none⟩ (cellD s m))) (hm' : Mr σ F KL encF (.map (some m)) l) :
    FnT Try.prog σ F 71 [.pointer (some ⟨b, 0, none⟩), .string (str n)] [] (fun u ρ => u = .tuple #[.string (str (readO s n false).1), .int .i64 (readO s n false).2] ∧ ρ = []) := by
  refine fn_of 17 Try.func71 rfl Try.ntmps71 rfl ?_
  refine w_seq ?_
  refine w_region ?_
  refine wl_det rfl rfl rfl (op_assign rfl) ?_
  refine wl_det rfl rfl rfl (op_assign rfl) ?_
  refine wl_nil ?_
  refine st_tn ?_
  refine w_seq ?_
  refine w_region ?_
  refine wl_det rfl rfl rfl (op_move rfl) ?_
  refine wl_det rfl rfl rfl (op_move rfl) ?_
  refine wl_det rfl rfl rfl (op_fn Try.func76 rfl rfl rfl (find_any n hg hp hn (Ent.app hd _) (Ent.app hm' _))) ?_
  refine wl_det rfl rfl rfl (op_move rfl) ?_
  refine wl_det rfl rfl rfl (op_extract rfl rfl) ?_
  refine wl_det rfl rfl rfl (op_extract rfl rfl) ?_
  refine wl_op [] rfl rfl rfl rfl (op_alloc (l := 6) tN93c) ?_
  rintro _ _ ⟨b6, rfl, rfl⟩
  refine wl_op0 [6] rfl rfl rfl (op_store rfl rfl tZ93c (by rfl) (by rfl) (by exact Nat.le_of_ble_eq_true rfl)) ?_
  rintro _ _ ⟨rfl, rfl⟩
  refine wl_det rfl rfl rfl (op_assign rfl) ?_
  refine wl_nil ?_
  refine st_tn ?_
  refine w_seq ?_
  refine w_region ?_
  refine wl_det rfl rfl rfl (op_fieldAddr (off := 0) rfl tF93_0c) ?_
  refine wl_det rfl rfl rfl (op_load1 rfl tO9c (Ent.lab (l := 6) rfl (says_cel 0))) ?_
  refine wl_det rfl rfl rfl (op_move rfl) ?_
  refine wl_det rfl rfl rfl (op_assign rfl) ?_
  refine wl_det rfl rfl rfl (op_assign rfl) ?_
  refine wl_nil ?_
  refine st_tn ?_
  refine w_ret ?_
  refine st_ret (vs := [_, _]) [] Try.results71 ⟨rfl, ⟨rfl, trivial⟩⟩ rfl ?_
  refine ⟨_, rfl, ?_⟩
  rw [read_find]; exact ⟨rfl, rfl⟩

set_option maxHeartbeats 400000 in
set_option maxRecDepth 100000 in
theorem down_any {σ : World} {F : List Res} {b m : Nat} (s : St) (hd : Ent σ F (At ⟨b, 0, none⟩ (cellD s m))) :
    FnT Try.prog σ F 37 [.pointer (some ⟨b, 0, none⟩)] [] (fun u ρ => u = .bool s.down ∧ ρ = []) := by
  refine fn_of 11 Try.func37 rfl Try.ntmps37 rfl ?_
  refine w_seq ?_
  refine w_region ?_
  refine wl_det rfl rfl rfl (op_assign rfl) ?_
  refine wl_nil ?_
  refine st_tn ?_
  refine w_seq ?_
  refine w_region ?_
  refine wl_det rfl rfl rfl (op_move rfl) ?_
  refine wl_det rfl rfl rfl (op_val (v' := .bool true) (by simp) (op_nePtr rfl Try.underlying22)) ?_
  refine wl_det rfl rfl rfl (op_move rfl) ?_
  refine wl_wanted_det rfl rfl rfl rfl rfl rfl rfl (op_move rfl) ?_
  refine wl_wanted_det rfl rfl rfl rfl rfl rfl rfl (op_nilCheck rfl) ?_
  refine wl_wanted_det rfl rfl rfl rfl rfl rfl rfl (op_fieldAddr (off := 2) rfl tF90_2c) ?_
  refine wl_wanted_det rfl rfl rfl rfl rfl rfl rfl (op_load1 rfl tO4c (Ent.app (Ent.fld hd 2) _)) ?_
  refine wl_det rfl rfl rfl (op_pick_t rfl rfl) ?_
  refine wl_det rfl rfl rfl (op_assign rfl) ?_
  refine wl_nil ?_
  refine st_tn ?_
  refine w_ret ?_
  refine st_ret (vs := [_]) [] Try.results37 ⟨rfl, trivial⟩ rfl ?_
  refine ⟨_, rfl, ?_⟩
  exact ⟨rfl, rfl⟩

set_option maxHeartbeats 400000 in
set_option maxRecDepth 100000 in
theorem limit_any {σ : World} {F : List Res} {b m : Nat} (s : St) (k : Int) :
    FnT Try.prog σ F 36 [.pointer (some ⟨b, 0, none⟩), .int .i64 k] [(601, cel b (cellD s m) 90)] (fun u ρ => u = .tuple #[] ∧ ρ = [(601, cel b (cellD (limO s k) m) 90)]) := by
  refine fn_of 14 Try.func36 rfl Try.ntmps36 rfl ?_
  refine w_seq ?_
  refine w_region ?_
  refine wl_det rfl rfl rfl (op_move rfl) ?_
  refine wl_det rfl rfl rfl (op_val (v' := .bool true) (by simp) (op_nePtr rfl Try.underlying22)) ?_
  refine wl_nil ?_
  refine st_tn ?_
  refine w_cond_t (rfl) ?_
  refine w_region ?_
  refine wl_det rfl rfl rfl (op_move rfl) ?_
  refine wl_det rfl rfl rfl (op_move rfl) ?_
  refine wl_det rfl rfl rfl (op_move rfl) ?_
  refine wl_det rfl rfl rfl (op_max rfl rfl) ?_
  refine wl_det rfl rfl rfl (op_nilCheck rfl) ?_
  refine wl_det rfl rfl rfl (op_fieldAddr (off := 3) rfl tF90_3c) ?_
  refine wl_op0 [601] rfl rfl rfl (op_store rfl rfl tZ4c (by rfl) (by rfl) (by exact Nat.le_of_ble_eq_true rfl)) ?_
  rintro _ _ ⟨rfl, rfl⟩
  refine wl_det rfl rfl rfl (op_nilCheck rfl) ?_
  refine wl_det rfl rfl rfl (op_fieldAddr (off := 4) rfl tF90_4c) ?_
  refine wl_op0 [601] rfl rfl rfl (op_store rfl rfl tZ3c (by rfl) (by rfl) (by exact Nat.le_of_ble_eq_true rfl)) ?_
  rintro _ _ ⟨rfl, rfl⟩
  refine wl_nil ?_
  refine st_end (vs := []) [601] Try.results36 trivial rfl ?_
  refine ⟨[(601, _)], rfl, ?_⟩
  exact ⟨rfl, rfl⟩

set_option maxHeartbeats 400000 in
set_option maxRecDepth 100000 in
theorem crash_any {σ : World} {F : List Res} {b m : Nat} (s : St) :
    FnT Try.prog σ F 33 [.pointer (some ⟨b, 0, none⟩)] [(601, cel b (cellD s m) 90)] (fun u ρ => u = .tuple #[] ∧ ρ = [(601, cel b (cellD (craO s) m) 90)]) := by
  refine fn_of 7 Try.func33 rfl Try.ntmps33 rfl ?_
  refine w_seq ?_
  refine w_region ?_
  refine wl_det rfl rfl rfl (op_move rfl) ?_
  refine wl_det rfl rfl rfl (op_val (v' := .bool true) (by simp) (op_nePtr rfl Try.underlying22)) ?_
  refine wl_nil ?_
  refine st_tn ?_
  refine w_cond_t (rfl) ?_
  refine w_region ?_
  refine wl_det rfl rfl rfl (op_move rfl) ?_
  refine wl_det rfl rfl rfl (op_nilCheck rfl) ?_
  refine wl_det rfl rfl rfl (op_fieldAddr (off := 2) rfl tF90_2c) ?_
  refine wl_op0 [601] rfl rfl rfl (op_store rfl rfl tZ4c (by rfl) (by rfl) (by exact Nat.le_of_ble_eq_true rfl)) ?_
  rintro _ _ ⟨rfl, rfl⟩
  refine wl_nil ?_
  refine st_end (vs := []) [601] Try.results33 trivial rfl ?_
  refine ⟨[(601, _)], rfl, ?_⟩
  exact ⟨rfl, rfl⟩

def listO (s : St) : List Bs := if s.down = true then [] else keysOf s.fs
theorem ready_nil (s : St) : readyE s [] = if s.down = true then 27 else 0 := by unfold readyE; simp
set_option maxHeartbeats 400000 in
set_option maxRecDepth 100000 in
theorem list_any {σ : World} {F : List Res} {b m : Nat} {s : St} {l : Files} (lab : Nat) (hg : DskM.Good s) (hp : l.Perm s.fs) (hd : Ent σ F (At ⟨b, 0, none⟩ (cellD s m))) (hm' : Mr σ F KL encF (.map (some m)) l) :
    FnT Try.prog σ F 51 [.pointer (some ⟨b, 0, none⟩)] [] (fun u ρ => ∃ a c, u = .slice a (listO s).length c ∧ ρ = [(lab, slW 9 encT 1 (.slice a (listO s).length c) (listO s))]) := by
  refine fn_of 12 Try.func51 rfl Try.ntmps51 rfl ?_
  refine w_seq ?_
  refine w_region ?_
  refine wl_det rfl rfl rfl (op_assign rfl) ?_
  refine wl_nil ?_
  refine st_tn ?_
  refine w_seq ?_
  refine w_seq ?_
  refine w_region ?_
  refine wl_det rfl rfl rfl (op_move rfl) ?_
  refine wl_det rfl rfl rfl (op_fn Try.func62 rfl rfl rfl (ready_any (s := s) (m := m) (l := []) (Ent.app hd _) Sl.nilv (by simp))) ?_
  refine wl_det rfl rfl rfl (op_neq rfl rfl) ?_
  refine wl_nil ?_
  refine st_tn ?_
  refine w_cond_d rfl (fun hc5 => ?_) (fun hc5 => ?_)
  · -- c5.t
    have hdn : listO s = [] := by
      rw [ready_nil] at hc5
      unfold listO
      by_cases h : s.down = true <;> simp [h] at hc5 ⊢
    refine w_seq ?_
    refine w_region ?_
    refine wl_det rfl rfl rfl (op_assign rfl) ?_
    refine wl_nil ?_
    refine st_tn ?_
    refine w_emp 12 (slO_nil 9 1) ?_
    refine w_ret ?_
    refine st_tr ?_
    refine st_ret (vs := [_]) [12] Try.results51 ⟨rfl, trivial⟩ rfl ?_
    refine ⟨[(lab, _)], rfl, ?_⟩
    rw [hdn]; exact ⟨_, _, rfl, rfl⟩
  · -- c5.f
    have hdn : listO s = keysOf s.fs := by
      rw [ready_nil] at hc5
      unfold listO
      by_cases h : s.down = true <;> simp [h] at hc5 ⊢
    refine w_skip ?_
    refine st_tn ?_
    refine w_seq ?_
    refine w_region ?_
    refine wl_det rfl rfl rfl (op_move rfl) ?_
    refine wl_det rfl rfl rfl (op_nilCheck rfl) ?_
    refine wl_det rfl rfl rfl (op_fieldAddr (off := 1) rfl tF90_1c) ?_
    refine wl_det rfl rfl rfl (op_load1 rfl tO88c (Ent.app (Ent.fld hd 1) _)) ?_
    refine wl_op [] rfl rfl rfl rfl (op_fn Try.func61 rfl rfl rfl (keys_any 10)) ?_
    rintro _ _ ⟨b10, rfl, rfl⟩
    refine wl_op [] rfl rfl rfl rfl (op_fn Try.func60 rfl rfl rfl (sortedK 11 (Ent.lab (l := 10) rfl (says_cel 0)) (Ent.app hm' _) hp hg.inc (name_len hg) hg.cnt)) ?_
    rintro _ _ ⟨a11, c11, rfl, rfl⟩
    refine wl_det rfl rfl rfl (op_assign rfl) ?_
    refine wl_nil ?_
    refine st_tn ?_
    refine w_ret ?_
    refine st_ret (vs := [_]) [11] Try.results51 ⟨rfl, trivial⟩ rfl ?_
    refine ⟨[(lab, _)], rfl, ?_⟩
    rw [hdn]; exact ⟨_, _, rfl, rfl⟩

end Go.Proofs.Ytcbigmgakdanjaa
namespace Go.Proofs.Ytcbigmgakdanjaa
open Go Go.SL Go.RowKit Go.DskM
set_option linter.unusedVariables false
set_option linter.unusedSimpArgs false
theorem tA93d : aggB Try.prog 93 3 = true := by kernel_rfl
theorem tF90_0d : fieldB Try.prog 90 0 0 = true := by kernel_rfl
theorem tF90_1d : fieldB Try.prog 90 1 1 = true := by kernel_rfl
theorem tF93_0d : fieldB Try.prog 93 0 0 = true := by kernel_rfl
theorem tF93_1d : fieldB Try.prog 93 1 1 = true := by kernel_rfl
theorem tF93_2d : fieldB Try.prog 93 2 2 = true := by kernel_rfl
theorem tL35_1d : zerosB Try.prog 35 9 1 1 = some [Value.string .empty] := by kernel_rfl
theorem tMixd : Try.prog.follows .mixedOrders = true := by kernel_rfl
theorem tN93d : (Try.prog.info? 93).bind (·.zero) = some (Value.agg #[Value.string .empty, Value.int .i64 0, Value.bool false]) := by kernel_rfl
theorem tO3d : oneB Try.prog 3 = true := by kernel_rfl
theorem tO88d : oneB Try.prog 88 = true := by kernel_rfl
theorem tO9d : oneB Try.prog 9 = true := by kernel_rfl
theorem tQ88d : mapB Try.prog 88 9 93 KL.desc := ⟨Try.underlying88, Try.underlying9⟩
theorem tZ3d : (Try.prog.info? 3).map (·.size) = some 1 := by kernel_rfl
theorem tZ4d : (Try.prog.info? 4).map (·.size) = some 1 := by kernel_rfl
theorem tZ9d : (Try.prog.info? 9).map (·.size) = some 1 := by kernel_rfl
theorem tZ93d : (Try.prog.info? 93).map (·.size) = some 3 := by kernel_rfl

theorem le_used {fs : Files} {p : Bs × Fl} (h : p ∈ fs) : p.2.data.length ≤ used fs := by
  induction fs with
  | nil => simp at h
  | cons q l ih =>
    rw [used_cons]
    rcases List.mem_cons.1 h with rfl | h
    · omega
    · have := ih h; omega
theorem app_ready {s : St} {n d : Bs} (h : readyE s [n] ≠ 0) : appO s n d = (readyE s [n], s) := by unfold appO; rw [if_pos h]
theorem app_limit {s : St} {n d : Bs} (h : ¬ readyE s [n] ≠ 0) (h2 : find s.fs n = none) (h3 : 256 ≤ s.fs.length) : appO s n d = (6, s) := by unfold appO; rw [if_neg h, if_pos ⟨h2, h3⟩]
theorem app_full {s : St} {n d : Bs} (h : ¬ readyE s [n] ≠ 0) (h2 : ¬ (find s.fs n = none ∧ 256 ≤ s.fs.length)) (h3 : s.cap < used s.fs + d.length) : appO s n d = (28, s) := by unfold appO; rw [if_neg h, if_neg h2, if_pos h3]
theorem app_done {s : St} {n d : Bs} (h : ¬ readyE s [n] ≠ 0) (h2 : ¬ (find s.fs n = none ∧ 256 ≤ s.fs.length)) (h3 : ¬ s.cap < used s.fs + d.length) : appO s n d = (if (oper (grown s n d)).1 = true then 0 else 27, (oper (grown s n d)).2) := by
  unfold appO; rw [if_neg h, if_neg h2, if_neg h3]; split <;> rfl
theorem oper_perm {s : St} {l : Files} (h : l.Perm s.fs) : l.Perm (oper s).2.fs := by rw [(oper_fs s).1]; exact h
theorem grown_perm {s : St} {l : Files} {n d : Bs} {f : Fl} (hg : DskM.Good s) (h : l.Perm s.fs) (hf : (find s.fs n).getD zeroF = f) : (setK KL l n ⟨f.data ++ d, f.syn, f.dur⟩).Perm (oper (grown s n d)).2.fs := by
  refine oper_perm ?_
  subst hf
  exact set_perm h hg.inc n _
set_option maxHeartbeats 1000000 in
set_option maxRecDepth 100000 in
theorem append_any {σ : World} {F : List Res} {b m : Nat} {s : St} {l : Files} (n d : Bs) (hg : DskM.Good s) (hp : l.Perm s.fs) (hn : n.length ≤ maxLen) (hdl : d.length ≤ 1099511627776) :
    FnT Try.prog σ F 44 [.pointer (some ⟨b, 0, none⟩), .string (str n), .string (str d)] [(601, cel b (cellD s m) 90), (602, mp KL encF m l)] (fun u ρ => ∃ l', l'.Perm (appO s n d).2.fs ∧ u = .int .i64 (appO s n d).1 ∧ ρ = [(601, cel b (cellD (appO s n d).2 m) 90), (602, mp KL encF m l')]) := by
  refine fn_of 62 Try.func44 rfl Try.ntmps44 rfl ?_
  have hlk := look_fs hg hp n
  have huse := hg.use
  have hcap := hg.cap
  have hll := hp.length_eq
  refine w_seq ?_
  refine w_region ?_
  refine wl_det rfl rfl rfl (op_assign rfl) ?_
  refine wl_nil ?_
  refine st_tn ?_
  refine w_seq ?_
  refine w_seq ?_
  refine w_region ?_
  refine wl_det rfl rfl rfl (op_move rfl) ?_
  refine wl_det rfl rfl rfl (op_move rfl) ?_
  refine wl_op [] rfl rfl rfl rfl (op_buildSlice (enc := encT) (l := [_]) (lab := 12) tL35_1d rfl rfl (fun _ => rfl) rfl) ?_
  rintro _ _ ⟨a12, c12, rfl, rfl⟩
  refine wl_det rfl rfl rfl (op_fn Try.func62 rfl rfl rfl (ready_any (s := s) (m := m) (l := [n]) (celD 601 rfl) (Sl.lab 12 rfl (by simp [maxLen])) (by simpa using hn))) ?_
  refine wl_det rfl rfl rfl (op_assign rfl) ?_
  refine wl_nil ?_
  refine st_tn ?_
  refine w_seq ?_
  refine w_region ?_
  refine wl_det rfl rfl rfl (op_move rfl) ?_
  refine wl_det rfl rfl rfl (op_neq rfl rfl) ?_
  refine wl_nil ?_
  refine st_tn ?_
  refine w_cond_d rfl (fun hc15 => ?_) (fun hc15 => ?_)
  · -- c15.t
    refine w_seq ?_
    refine w_region ?_
    refine wl_det rfl rfl rfl (op_move rfl) ?_
    refine wl_det rfl rfl rfl (op_assign rfl) ?_
    refine wl_nil ?_
    refine st_tn ?_
    refine w_ret ?_
    refine st_tr ?_
    refine st_ret (vs := [_]) [601, 602] Try.results44 ⟨rfl, trivial⟩ rfl ?_
    refine ⟨[(601, _), (602, _)], rfl, ?_⟩
    rw [app_ready hc15]; exact ⟨l, hp, rfl, rfl⟩
  · -- c15.f
    have hdn := (ready0 hc15).1
    refine w_skip ?_
    refine st_tn ?_
    refine w_seq ?_
    by_cases hf : (find s.fs n).isSome = true
    · -- hf+
      obtain ⟨f, hff⟩ := Option.isSome_iff_exists.1 hf
      have hfl : f.data.length ≤ used s.fs := le_used (find_mem hff)
      have hfd : (find s.fs n).getD zeroF = f := by rw [hff]; rfl
      have hno : ¬ (find s.fs n = none ∧ 256 ≤ s.fs.length) := fun h => by rw [hff] at h; simp at h
      refine w_region ?_
      refine wl_det rfl rfl rfl (op_move rfl) ?_
      refine wl_det rfl rfl rfl (op_nilCheck rfl) ?_
      refine wl_det rfl rfl rfl (op_fieldAddr (off := 1) rfl tF90_1d) ?_
      refine wl_det rfl rfl rfl (op_load1 rfl tO88d (Ent.lab (l := 601) rfl (says_cel 1))) ?_
      refine wl_det rfl rfl rfl (op_move rfl) ?_
      refine wl_det rfl rfl rfl (op_val (v' := .tuple #[encF f, .bool true]) (by exact look_val hlk hff) (op_lookup2 (kt := KL) (encV := encF) rfl rfl tQ88d tN93d (Mr.lab 602 rfl))) ?_
      refine wl_det rfl rfl rfl (op_move rfl) ?_
      refine wl_det rfl rfl rfl (op_extract rfl rfl) ?_
      refine wl_det rfl rfl rfl (op_extract rfl rfl) ?_
      refine wl_op [] rfl rfl rfl rfl (op_alloc (l := 8) tN93d) ?_
      rintro _ _ ⟨b8, rfl, rfl⟩
      refine wl_op0 [8] rfl rfl rfl (op_store rfl rfl tZ93d (by rfl) (by rfl) (by exact Nat.le_of_ble_eq_true rfl)) ?_
      rintro _ _ ⟨rfl, rfl⟩
      refine wl_det rfl rfl rfl (op_assign rfl) ?_
      refine wl_nil ?_
      refine st_tn ?_
      refine w_seq ?_
      refine w_block ?_
      refine w_seq ?_
      refine w_region ?_
      refine wl_det rfl rfl rfl (op_move rfl) ?_
      refine wl_det rfl rfl rfl (op_not_t rfl) ?_
      refine wl_det rfl rfl rfl (op_move rfl) ?_
      refine wl_unwanted rfl rfl rfl rfl rfl rfl rfl rfl ?_
      refine wl_unwanted rfl rfl rfl rfl rfl rfl rfl rfl ?_
      refine wl_unwanted rfl rfl rfl rfl rfl rfl rfl rfl ?_
      refine wl_unwanted rfl rfl rfl rfl rfl rfl rfl rfl ?_
      refine wl_unwanted rfl rfl rfl rfl rfl rfl rfl rfl ?_
      refine wl_unwanted rfl rfl rfl rfl rfl rfl rfl rfl ?_
      refine wl_det rfl rfl rfl (op_pick_f rfl rfl) ?_
      refine wl_det rfl rfl rfl (op_assign rfl) ?_
      refine wl_nil ?_
      refine st_tn ?_
      refine w_cond_f (rfl) ?_
      refine w_seq ?_
      refine w_openM 602 rfl (fun bs ck hwf => ?_)
      refine w_drawW (fun β => [⟨38, [], [], [], noW (_), false, [], []⟩, ⟨39, [0], [], [], noW (_), false, [], []⟩, ⟨40, [], [], [], noW (_), false, [], []⟩, ⟨41, [2], [], [], noW (_), false, [], []⟩, ⟨42, [1, 3], [], [], noW (_), false, [], []⟩, ⟨43, [], [], [], noW (_), false, [], []⟩, ⟨44, [5], [], [], noW (_), false, [], []⟩, ⟨45, [6], [], [], noW (_), false, [], []⟩, ⟨46, [7], [], [], noW (_), false, [], []⟩]) [] [0, 2] [⟨38, [], [], false, [], []⟩, ⟨39, [0], [], false, [], []⟩, ⟨40, [], [], false, [], []⟩, ⟨41, [2], [], false, [], []⟩, ⟨42, [1, 3], [], false, [], []⟩, ⟨43, [], [], false, [], []⟩, ⟨44, [5], [], false, [], []⟩, ⟨45, [6], [], false, [], []⟩, ⟨46, [7], [], false, [], []⟩] [[], [], [], [], [], [], [], [], []] [[], [], [], [], [], [], [], [], []] tMixd (fun _ => by rfl) (fun _ => by rfl) (by kernel_rfl) (by kernel_rfl) (by rfl) (by rfl)
          (fun β => ⟨.p rfl (by intro X; exact op_move rfl),
          ⟨.p rfl (by intro X; rintro _ _ ⟨rfl, rfl⟩; exact op_val (v' := .int .i64 (used s.fs : Int)) (by rw [hdn]; rfl) (op_fn Try.func63 rfl rfl rfl (used_any (s := s) (bs := bs) (ck := ck) hg hp (Ent.lab (l := 601) rfl (says_cel 0)) (Me.lab 602 rfl)))),
          ⟨.p rfl (by intro X; exact op_move rfl),
          ⟨.p rfl (by intro X; rintro _ _ ⟨rfl, rfl⟩; exact op_lenBs rfl Try.underlying9),
          ⟨.p rfl (by intro X; rintro _ _ ⟨rfl, rfl⟩ _ _ ⟨rfl, rfl⟩; exact op_add' rfl rfl (by omega)),
          ⟨.p rfl (by intro X; exact op_move rfl),
          ⟨.p rfl (by intro X; rintro _ _ ⟨rfl, rfl⟩; exact op_nilCheck rfl),
          ⟨.p rfl (by intro X; rintro _ _ ⟨rfl, rfl⟩; exact op_fieldAddr (off := 0) rfl tF90_0d),
          ⟨.p rfl (by intro X; rintro _ _ ⟨rfl, rfl⟩; exact op_load1 rfl tO3d (Ent.lab (l := 601) rfl (says_cel 0))),
          trivial⟩⟩⟩⟩⟩⟩⟩⟩⟩)
          (fun β β' => ⟨fun _ => by rfl, ⟨fun _ => by rfl, ⟨fun _ => by rfl, ⟨fun _ => by rfl, ⟨fun _ => by rfl, ⟨fun _ => by rfl, ⟨fun _ => by rfl, ⟨fun _ => by rfl, ⟨fun _ => by rfl, trivial⟩⟩⟩⟩⟩⟩⟩⟩⟩) ?_
      intro β
      rintro _ _ ⟨rfl, rfl⟩ _ _ ⟨rfl, rfl⟩ _ _ ⟨rfl, rfl⟩ _ _ ⟨rfl, rfl⟩ _ _ ⟨rfl, rfl⟩ _ _ ⟨rfl, rfl⟩ _ _ ⟨rfl, rfl⟩ _ _ ⟨rfl, rfl⟩ _ _ ⟨rfl, rfl⟩
      refine wl_norm (e' := [(0, _), (1, _), (2, _), (8, _), (42, _), (46, _)]) (.cons rfl (.cons rfl (.cons rfl (.cons rfl (.cons rfl (.cons rfl (.nil _))))))) (by dsimp only [cond_false, cond_true, List.nil_append, List.cons_append]) ?_
      refine wl_det rfl rfl rfl (op_gtr rfl rfl) ?_
      refine wl_det rfl rfl rfl (op_assign rfl) ?_
      refine wl_nil ?_
      refine st_tn ?_
      refine w_cond_d rfl (fun hc37 => ?_) (fun hc37 => ?_)
      · -- c37.t
        refine w_seq ?_
        refine w_wk 602 (mp KL encF m l) rfl mpE_mp ?_
        refine w_region ?_
        refine wl_det rfl rfl rfl (op_assign rfl) ?_
        refine wl_nil ?_
        refine st_tn ?_
        refine w_ret ?_
        refine st_br ?_
        refine st_tr ?_
        refine st_ret (vs := [_]) [601, 602] Try.results44 ⟨rfl, trivial⟩ rfl ?_
        refine ⟨[(601, _), (602, _)], rfl, ?_⟩
        rw [app_full hc15 hno (by omega)]; exact ⟨l, hp, rfl, rfl⟩
      · -- c37.f
        refine w_skip ?_
        refine st_bn ?_
        refine st_tn ?_
        refine w_seq ?_
        refine w_wk 602 (mp KL encF m l) rfl mpE_mp ?_
        refine w_region ?_
        refine wl_det rfl rfl rfl (op_fieldAddr (off := 0) rfl tF93_0d) ?_
        refine wl_det rfl rfl rfl (op_load1 rfl tO9d (Ent.lab (l := 8) rfl (says_cel 0))) ?_
        refine wl_det rfl rfl rfl (op_move rfl) ?_
        refine wl_det rfl rfl rfl (op_catBs rfl rfl (by omega)) ?_
        refine wl_det rfl rfl rfl (op_fieldAddr (off := 0) rfl tF93_0d) ?_
        refine wl_op0 [8] rfl rfl rfl (op_store rfl rfl tZ9d (by rfl) (by rfl) (by exact Nat.le_of_ble_eq_true rfl)) ?_
        rintro _ _ ⟨rfl, rfl⟩
        refine wl_nil ?_
        refine st_tn ?_
        refine w_seq ?_
        refine w_drawW (fun β => [⟨53, [], [], [], noW (_), false, [], []⟩, ⟨54, [0], [], [], noW (_), false, [], []⟩, ⟨55, [1], [], [], noW (_), false, [], []⟩, ⟨56, [2], [], [], noW (_), false, [], []⟩, ⟨57, [], [], [], noW (_), false, [], []⟩, ⟨58, [], [], [], noW (_), false, [], []⟩]) [] [0, 1, 8] [⟨53, [], [], false, [], []⟩, ⟨54, [0], [], false, [], []⟩, ⟨55, [1], [], false, [], []⟩, ⟨56, [2], [], false, [], []⟩, ⟨57, [], [], false, [], []⟩, ⟨58, [], [], false, [], []⟩] [[], [], [], [], [], []] [[], [], [], [], [], []] tMixd (fun _ => by rfl) (fun _ => by rfl) (by kernel_rfl) (by kernel_rfl) (by rfl) (by rfl)
            (fun β => ⟨.p rfl (by intro X; exact op_move rfl),
            ⟨.p rfl (by intro X; rintro _ _ ⟨rfl, rfl⟩; exact op_nilCheck rfl),
            ⟨.p rfl (by intro X; rintro _ _ ⟨rfl, rfl⟩; exact op_fieldAddr (off := 1) rfl tF90_1d),
            ⟨.p rfl (by intro X; rintro _ _ ⟨rfl, rfl⟩; exact op_load1 rfl tO88d (Ent.lab (l := 601) rfl (says_cel 1))),
            ⟨.p rfl (by intro X; exact op_move rfl),
            ⟨.p rfl (by intro X; exact op_loadA rfl tA93d (Ent.lab (l := 8) rfl (says_cel 0)) (Nat.le_of_ble_eq_true rfl)),
            trivial⟩⟩⟩⟩⟩⟩)
            (fun β β' => ⟨fun _ => by rfl, ⟨fun _ => by rfl, ⟨fun _ => by rfl, ⟨fun _ => by rfl, ⟨fun _ => by rfl, ⟨fun _ => by rfl, trivial⟩⟩⟩⟩⟩⟩) ?_
        intro β
        rintro _ _ ⟨rfl, rfl⟩ _ _ ⟨rfl, rfl⟩ _ _ ⟨rfl, rfl⟩ _ _ ⟨rfl, rfl⟩ _ _ ⟨rfl, rfl⟩ _ _ ⟨rfl, rfl⟩
        refine wl_norm (e' := [(0, _), (56, _), (57, _), (58, _)]) (.cons rfl (.cons rfl (.cons rfl (.cons rfl (.nil _))))) (by dsimp only [cond_false, cond_true, List.nil_append, List.cons_append]) ?_
        refine wl_op0 [602] rfl rfl rfl (op_mapUpdate (kt := KL) (encV := encF) (lab := 602) (v := ⟨f.data ++ d, f.syn, f.dur⟩) rfl rfl rfl tQ88d) ?_
        rintro _ _ ⟨rfl, rfl⟩
        refine wl_nil ?_
        refine st_tn ?_
        refine w_seq ?_
        refine w_seq ?_
        refine w_region ?_
        refine wl_det rfl rfl rfl (op_move rfl) ?_
        refine wl_op [601] rfl rfl rfl rfl (op_fn Try.func64 rfl rfl rfl (operate_any (grown s n d) (hg.grown ((ready0 hc15).2 n (by simp)) hno (by omega)))) ?_
        rintro _ _ ⟨rfl, rfl⟩
        refine wl_det rfl rfl rfl (op_not rfl) ?_
        refine wl_nil ?_
        refine st_tn ?_
        refine w_cond rfl (fun hc61 => ?_) (fun hc61 => ?_)
        · -- c61.t
          refine w_seq ?_
          refine w_region ?_
          refine wl_det rfl rfl rfl (op_assign rfl) ?_
          refine wl_nil ?_
          refine st_tn ?_
          refine w_ret ?_
          refine st_tr ?_
          refine st_ret (vs := [_]) [601, 602] Try.results44 ⟨rfl, trivial⟩ rfl ?_
          refine ⟨[(601, _), (602, _)], rfl, ?_⟩
          rw [app_done hc15 hno (by omega), if_neg (by simpa using hc61)]; exact ⟨_, grown_perm hg hp hfd, rfl, rfl⟩
        · -- c61.f
          refine w_skip ?_
          refine st_tn ?_
          refine w_seq ?_
          refine w_region ?_
          refine wl_det rfl rfl rfl (op_assign rfl) ?_
          refine wl_nil ?_
          refine st_tn ?_
          refine w_ret ?_
          refine st_ret (vs := [_]) [601, 602] Try.results44 ⟨rfl, trivial⟩ rfl ?_
          refine ⟨[(601, _), (602, _)], rfl, ?_⟩
          rw [app_done hc15 hno (by omega), if_pos (by simpa using hc61)]; exact ⟨_, grown_perm hg hp hfd, rfl, rfl⟩
    · -- hf-
      have hff : find s.fs n = none := by simpa using hf
      have hfd : (find s.fs n).getD zeroF = zeroF := by rw [hff]; rfl
      have hfz : zeroF.data.length = 0 := rfl
      refine w_region ?_
      refine wl_det rfl rfl rfl (op_move rfl) ?_
      refine wl_det rfl rfl rfl (op_nilCheck rfl) ?_
      refine wl_det rfl rfl rfl (op_fieldAddr (off := 1) rfl tF90_1d) ?_
      refine wl_det rfl rfl rfl (op_load1 rfl tO88d (Ent.lab (l := 601) rfl (says_cel 1))) ?_
      refine wl_det rfl rfl rfl (op_move rfl) ?_
      refine wl_det rfl rfl rfl (op_val (v' := .tuple #[encF zeroF, .bool false]) (by exact look_val0 hlk hff) (op_lookup2 (kt := KL) (encV := encF) rfl rfl tQ88d tN93d (Mr.lab 602 rfl))) ?_
      refine wl_det rfl rfl rfl (op_move rfl) ?_
      refine wl_det rfl rfl rfl (op_extract rfl rfl) ?_
      refine wl_det rfl rfl rfl (op_extract rfl rfl) ?_
      refine wl_op [] rfl rfl rfl rfl (op_alloc (l := 8) tN93d) ?_
      rintro _ _ ⟨b8, rfl, rfl⟩
      refine wl_op0 [8] rfl rfl rfl (op_store rfl rfl tZ93d (by rfl) (by rfl) (by exact Nat.le_of_ble_eq_true rfl)) ?_
      rintro _ _ ⟨rfl, rfl⟩
      refine wl_det rfl rfl rfl (op_assign rfl) ?_
      refine wl_nil ?_
      refine st_tn ?_
      refine w_seq ?_
      refine w_block ?_
      refine w_seq ?_
      refine w_region ?_
      refine wl_det rfl rfl rfl (op_move rfl) ?_
      refine wl_det rfl rfl rfl (op_not_f rfl) ?_
      refine wl_det rfl rfl rfl (op_move rfl) ?_
      refine wl_wanted_det rfl rfl rfl rfl rfl rfl rfl (op_move rfl) ?_
      refine wl_wanted_det rfl rfl rfl rfl rfl rfl rfl (op_nilCheck rfl) ?_
      refine wl_wanted_det rfl rfl rfl rfl rfl rfl rfl (op_fieldAddr (off := 1) rfl tF90_1d) ?_
      refine wl_wanted_det rfl rfl rfl rfl rfl rfl rfl (op_load1 rfl tO88d (Ent.lab (l := 601) rfl (says_cel 1))) ?_
      refine wl_wanted_det rfl rfl rfl rfl rfl rfl rfl (op_lenM (kt := KL) (encV := encF) rfl tQ88d (Mr.lab 602 rfl)) ?_
      refine wl_wanted_det rfl rfl rfl rfl rfl rfl rfl (op_geq rfl rfl) ?_
      refine wl_det rfl rfl rfl (op_pick_t rfl rfl) ?_
      refine wl_det rfl rfl rfl (op_assign rfl) ?_
      refine wl_nil ?_
      refine st_tn ?_
      refine w_cond_d rfl (fun hc26 => ?_) (fun hc26 => ?_)
      · -- c26.t
        refine w_seq ?_
        refine w_region ?_
        refine wl_det rfl rfl rfl (op_assign rfl) ?_
        refine wl_nil ?_
        refine st_tn ?_
        refine w_ret ?_
        refine st_br ?_
        refine st_tr ?_
        refine st_ret (vs := [_]) [601, 602] Try.results44 ⟨rfl, trivial⟩ rfl ?_
        refine ⟨[(601, _), (602, _)], rfl, ?_⟩
        rw [app_limit hc15 hff (by omega)]; exact ⟨l, hp, rfl, rfl⟩
      · -- c26.f
        have hno : ¬ (find s.fs n = none ∧ 256 ≤ s.fs.length) := fun h => hc26 (by have := h.2; omega)
        refine w_seq ?_
        refine w_openM 602 rfl (fun bs ck hwf => ?_)
        refine w_drawW (fun β => [⟨38, [], [], [], noW (_), false, [], []⟩, ⟨39, [0], [], [], noW (_), false, [], []⟩, ⟨40, [], [], [], noW (_), false, [], []⟩, ⟨41, [2], [], [], noW (_), false, [], []⟩, ⟨42, [1, 3], [], [], noW (_), false, [], []⟩, ⟨43, [], [], [], noW (_), false, [], []⟩, ⟨44, [5], [], [], noW (_), false, [], []⟩, ⟨45, [6], [], [], noW (_), false, [], []⟩, ⟨46, [7], [], [], noW (_), false, [], []⟩]) [] [0, 2] [⟨38, [], [], false, [], []⟩, ⟨39, [0], [], false, [], []⟩, ⟨40, [], [], false, [], []⟩, ⟨41, [2], [], false, [], []⟩, ⟨42, [1, 3], [], false, [], []⟩, ⟨43, [], [], false, [], []⟩, ⟨44, [5], [], false, [], []⟩, ⟨45, [6], [], false, [], []⟩, ⟨46, [7], [], false, [], []⟩] [[], [], [], [], [], [], [], [], []] [[], [], [], [], [], [], [], [], []] tMixd (fun _ => by rfl) (fun _ => by rfl) (by kernel_rfl) (by kernel_rfl) (by rfl) (by rfl)
            (fun β => ⟨.p rfl (by intro X; exact op_move rfl),
            ⟨.p rfl (by intro X; rintro _ _ ⟨rfl, rfl⟩; exact op_val (v' := .int .i64 (used s.fs : Int)) (by rw [hdn]; rfl) (op_fn Try.func63 rfl rfl rfl (used_any (s := s) (bs := bs) (ck := ck) hg hp (Ent.lab (l := 601) rfl (says_cel 0)) (Me.lab 602 rfl)))),
            ⟨.p rfl (by intro X; exact op_move rfl),
            ⟨.p rfl (by intro X; rintro _ _ ⟨rfl, rfl⟩; exact op_lenBs rfl Try.underlying9),
            ⟨.p rfl (by intro X; rintro _ _ ⟨rfl, rfl⟩ _ _ ⟨rfl, rfl⟩; exact op_add' rfl rfl (by omega)),
            ⟨.p rfl (by intro X; exact op_move rfl),
            ⟨.p rfl (by intro X; rintro _ _ ⟨rfl, rfl⟩; exact op_nilCheck rfl),
            ⟨.p rfl (by intro X; rintro _ _ ⟨rfl, rfl⟩; exact op_fieldAddr (off := 0) rfl tF90_0d),
            ⟨.p rfl (by intro X; rintro _ _ ⟨rfl, rfl⟩; exact op_load1 rfl tO3d (Ent.lab (l := 601) rfl (says_cel 0))),
            trivial⟩⟩⟩⟩⟩⟩⟩⟩⟩)
            (fun β β' => ⟨fun _ => by rfl, ⟨fun _ => by rfl, ⟨fun _ => by rfl, ⟨fun _ => by rfl, ⟨fun _ => by rfl, ⟨fun _ => by rfl, ⟨fun _ => by rfl, ⟨fun _ => by rfl, ⟨fun _ => by rfl, trivial⟩⟩⟩⟩⟩⟩⟩⟩⟩) ?_
        intro β
        rintro _ _ ⟨rfl, rfl⟩ _ _ ⟨rfl, rfl⟩ _ _ ⟨rfl, rfl⟩ _ _ ⟨rfl, rfl⟩ _ _ ⟨rfl, rfl⟩ _ _ ⟨rfl, rfl⟩ _ _ ⟨rfl, rfl⟩ _ _ ⟨rfl, rfl⟩ _ _ ⟨rfl, rfl⟩
        refine wl_norm (e' := [(0, _), (1, _), (2, _), (8, _), (42, _), (46, _)]) (.cons rfl (.cons rfl (.cons rfl (.cons rfl (.cons rfl (.cons rfl (.nil _))))))) (by dsimp only [cond_false, cond_true, List.nil_append, List.cons_append]) ?_
        refine wl_det rfl rfl rfl (op_gtr rfl rfl) ?_
        refine wl_det rfl rfl rfl (op_assign rfl) ?_
        refine wl_nil ?_
        refine st_tn ?_
        refine w_cond_d rfl (fun hc37 => ?_) (fun hc37 => ?_)
        · -- c37.t
          refine w_seq ?_
          refine w_wk 602 (mp KL encF m l) rfl mpE_mp ?_
          refine w_region ?_
          refine wl_det rfl rfl rfl (op_assign rfl) ?_
          refine wl_nil ?_
          refine st_tn ?_
          refine w_ret ?_
          refine st_br ?_
          refine st_tr ?_
          refine st_ret (vs := [_]) [601, 602] Try.results44 ⟨rfl, trivial⟩ rfl ?_
          refine ⟨[(601, _), (602, _)], rfl, ?_⟩
          rw [app_full hc15 hno (by omega)]; exact ⟨l, hp, rfl, rfl⟩
        · -- c37.f
          refine w_skip ?_
          refine st_bn ?_
          refine st_tn ?_
          refine w_seq ?_
          refine w_wk 602 (mp KL encF m l) rfl mpE_mp ?_
          refine w_region ?_
          refine wl_det rfl rfl rfl (op_fieldAddr (off := 0) rfl tF93_0d) ?_
          refine wl_det rfl rfl rfl (op_load1 rfl tO9d (Ent.lab (l := 8) rfl (says_cel 0))) ?_
          refine wl_det rfl rfl rfl (op_move rfl) ?_
          refine wl_det rfl rfl rfl (op_catBs rfl rfl (by omega)) ?_
          refine wl_det rfl rfl rfl (op_fieldAddr (off := 0) rfl tF93_0d) ?_
          refine wl_op0 [8] rfl rfl rfl (op_store rfl rfl tZ9d (by rfl) (by rfl) (by exact Nat.le_of_ble_eq_true rfl)) ?_
          rintro _ _ ⟨rfl, rfl⟩
          refine wl_nil ?_
          refine st_tn ?_
          refine w_seq ?_
          refine w_drawW (fun β => [⟨53, [], [], [], noW (_), false, [], []⟩, ⟨54, [0], [], [], noW (_), false, [], []⟩, ⟨55, [1], [], [], noW (_), false, [], []⟩, ⟨56, [2], [], [], noW (_), false, [], []⟩, ⟨57, [], [], [], noW (_), false, [], []⟩, ⟨58, [], [], [], noW (_), false, [], []⟩]) [] [0, 1, 8] [⟨53, [], [], false, [], []⟩, ⟨54, [0], [], false, [], []⟩, ⟨55, [1], [], false, [], []⟩, ⟨56, [2], [], false, [], []⟩, ⟨57, [], [], false, [], []⟩, ⟨58, [], [], false, [], []⟩] [[], [], [], [], [], []] [[], [], [], [], [], []] tMixd (fun _ => by rfl) (fun _ => by rfl) (by kernel_rfl) (by kernel_rfl) (by rfl) (by rfl)
              (fun β => ⟨.p rfl (by intro X; exact op_move rfl),
              ⟨.p rfl (by intro X; rintro _ _ ⟨rfl, rfl⟩; exact op_nilCheck rfl),
              ⟨.p rfl (by intro X; rintro _ _ ⟨rfl, rfl⟩; exact op_fieldAddr (off := 1) rfl tF90_1d),
              ⟨.p rfl (by intro X; rintro _ _ ⟨rfl, rfl⟩; exact op_load1 rfl tO88d (Ent.lab (l := 601) rfl (says_cel 1))),
              ⟨.p rfl (by intro X; exact op_move rfl),
              ⟨.p rfl (by intro X; exact op_loadA rfl tA93d (Ent.lab (l := 8) rfl (says_cel 0)) (Nat.le_of_ble_eq_true rfl)),
              trivial⟩⟩⟩⟩⟩⟩)
              (fun β β' => ⟨fun _ => by rfl, ⟨fun _ => by rfl, ⟨fun _ => by rfl, ⟨fun _ => by rfl, ⟨fun _ => by rfl, ⟨fun _ => by rfl, trivial⟩⟩⟩⟩⟩⟩) ?_
          intro β
          rintro _ _ ⟨rfl, rfl⟩ _ _ ⟨rfl, rfl⟩ _ _ ⟨rfl, rfl⟩ _ _ ⟨rfl, rfl⟩ _ _ ⟨rfl, rfl⟩ _ _ ⟨rfl, rfl⟩
          refine wl_norm (e' := [(0, _), (56, _), (57, _), (58, _)]) (.cons rfl (.cons rfl (.cons rfl (.cons rfl (.nil _))))) (by dsimp only [cond_false, cond_true, List.nil_append, List.cons_append]) ?_
          refine wl_op0 [602] rfl rfl rfl (op_mapUpdate (kt := KL) (encV := encF) (lab := 602) (v := ⟨zeroF.data ++ d, zeroF.syn, zeroF.dur⟩) rfl rfl rfl tQ88d) ?_
          rintro _ _ ⟨rfl, rfl⟩
          refine wl_nil ?_
          refine st_tn ?_
          refine w_seq ?_
          refine w_seq ?_
          refine w_region ?_
          refine wl_det rfl rfl rfl (op_move rfl) ?_
          refine wl_op [601] rfl rfl rfl rfl (op_fn Try.func64 rfl rfl rfl (operate_any (grown s n d) (hg.grown ((ready0 hc15).2 n (by simp)) hno (by omega)))) ?_
          rintro _ _ ⟨rfl, rfl⟩
          refine wl_det rfl rfl rfl (op_not rfl) ?_
          refine wl_nil ?_
          refine st_tn ?_
          refine w_cond rfl (fun hc61 => ?_) (fun hc61 => ?_)
          · -- c61.t
            refine w_seq ?_
            refine w_region ?_
            refine wl_det rfl rfl rfl (op_assign rfl) ?_
            refine wl_nil ?_
            refine st_tn ?_
            refine w_ret ?_
            refine st_tr ?_
            refine st_ret (vs := [_]) [601, 602] Try.results44 ⟨rfl, trivial⟩ rfl ?_
            refine ⟨[(601, _), (602, _)], rfl, ?_⟩
            rw [app_done hc15 hno (by omega), if_neg (by simpa using hc61)]; exact ⟨_, grown_perm hg hp hfd, rfl, rfl⟩
          · -- c61.f
            refine w_skip ?_
            refine st_tn ?_
            refine w_seq ?_
            refine w_region ?_
            refine wl_det rfl rfl rfl (op_assign rfl) ?_
            refine wl_nil ?_
            refine st_tn ?_
            refine w_ret ?_
            refine st_ret (vs := [_]) [601, 602] Try.results44 ⟨rfl, trivial⟩ rfl ?_
            refine ⟨[(601, _), (602, _)], rfl, ?_⟩
            rw [app_done hc15 hno (by omega), if_pos (by simpa using hc61)]; exact ⟨_, grown_perm hg hp hfd, rfl, rfl⟩

theorem syn_ready {s : St} {n : Bs} (h : readyE s [n] ≠ 0) : synO s n = (readyE s [n], s) := by unfold synO; rw [if_pos h]
theorem syn_none {s : St} {n : Bs} (h : ¬ readyE s [n] ≠ 0) (h2 : find s.fs n = none) : synO s n = (10, s) := by unfold synO; rw [if_neg h, h2]
theorem syn_fail {s : St} {n : Bs} {f : Fl} (h : ¬ readyE s [n] ≠ 0) (h2 : find s.fs n = some f) (h3 : ¬ (oper s).1 = true) : synO s n = (27, (oper s).2) := by unfold synO; rw [if_neg h, h2]; exact if_neg h3
theorem syn_done {s : St} {n : Bs} {f : Fl} (h : ¬ readyE s [n] ≠ 0) (h2 : find s.fs n = some f) (h3 : (oper s).1 = true) : synO s n = (0, { (oper s).2 with fs := setS s.fs n ⟨f.data, f.data.length, true⟩ }) := by unfold synO; rw [if_neg h, h2]; exact if_pos h3
set_option maxHeartbeats 1000000 in
set_option maxRecDepth 100000 in
theorem sync_any {σ : World} {F : List Res} {b m : Nat} {s : St} {l : Files} (n : Bs) (hg : DskM.Good s) (hp : l.Perm s.fs) (hn : n.length ≤ maxLen) :
    FnT Try.prog σ F 48 [.pointer (some ⟨b, 0, none⟩), .string (str n)] [(601, cel b (cellD s m) 90), (602, mp KL encF m l)] (fun u ρ => ∃ l', l'.Perm (synO s n).2.fs ∧ u = .int .i64 (synO s n).1 ∧ ρ = [(601, cel b (cellD (synO s n).2 m) 90), (602, mp KL encF m l')]) := by
  refine fn_of 42 Try.func48 rfl Try.ntmps48 rfl ?_
  have hlk := look_fs hg hp n
  have hll := hp.length_eq
  refine w_seq ?_
  refine w_region ?_
  refine wl_det rfl rfl rfl (op_assign rfl) ?_
  refine wl_nil ?_
  refine st_tn ?_
  refine w_seq ?_
  refine w_seq ?_
  refine w_region ?_
  refine wl_det rfl rfl rfl (op_move rfl) ?_
  refine wl_det rfl rfl rfl (op_move rfl) ?_
  refine wl_op [] rfl rfl rfl rfl (op_buildSlice (enc := encT) (l := [_]) (lab := 10) tL35_1d rfl rfl (fun _ => rfl) rfl) ?_
  rintro _ _ ⟨a10, c10, rfl, rfl⟩
  refine wl_det rfl rfl rfl (op_fn Try.func62 rfl rfl rfl (ready_any (s := s) (m := m) (l := [n]) (celD 601 rfl) (Sl.lab 10 rfl (by simp [maxLen])) (by simpa using hn))) ?_
  refine wl_det rfl rfl rfl (op_assign rfl) ?_
  refine wl_nil ?_
  refine st_tn ?_
  refine w_seq ?_
  refine w_region ?_
  refine wl_det rfl rfl rfl (op_move rfl) ?_
  refine wl_det rfl rfl rfl (op_neq rfl rfl) ?_
  refine wl_nil ?_
  refine st_tn ?_
  refine w_cond_d rfl (fun hc13 => ?_) (fun hc13 => ?_)
  · -- c13.t
    refine w_seq ?_
    refine w_region ?_
    refine wl_det rfl rfl rfl (op_move rfl) ?_
    refine wl_det rfl rfl rfl (op_assign rfl) ?_
    refine wl_nil ?_
    refine st_tn ?_
    refine w_ret ?_
    refine st_tr ?_
    refine st_ret (vs := [_]) [601, 602] Try.results48 ⟨rfl, trivial⟩ rfl ?_
    refine ⟨[(601, _), (602, _)], rfl, ?_⟩
    rw [syn_ready hc13]; exact ⟨l, hp, rfl, rfl⟩
  · -- c13.f
    refine w_skip ?_
    refine st_tn ?_
    refine w_seq ?_
    by_cases hf : (find s.fs n).isSome = true
    · -- hf+
      obtain ⟨f, hff⟩ := Option.isSome_iff_exists.1 hf
      refine w_region ?_
      refine wl_det rfl rfl rfl (op_move rfl) ?_
      refine wl_det rfl rfl rfl (op_nilCheck rfl) ?_
      refine wl_det rfl rfl rfl (op_fieldAddr (off := 1) rfl tF90_1d) ?_
      refine wl_det rfl rfl rfl (op_load1 rfl tO88d (Ent.lab (l := 601) rfl (says_cel 1))) ?_
      refine wl_det rfl rfl rfl (op_move rfl) ?_
      refine wl_det rfl rfl rfl (op_val (v' := .tuple #[encF f, .bool true]) (by exact look_val hlk hff) (op_lookup2 (kt := KL) (encV := encF) rfl rfl tQ88d tN93d (Mr.lab 602 rfl))) ?_
      refine wl_det rfl rfl rfl (op_move rfl) ?_
      refine wl_det rfl rfl rfl (op_extract rfl rfl) ?_
      refine wl_det rfl rfl rfl (op_extract rfl rfl) ?_
      refine wl_op [] rfl rfl rfl rfl (op_alloc (l := 6) tN93d) ?_
      rintro _ _ ⟨b6, rfl, rfl⟩
      refine wl_op0 [6] rfl rfl rfl (op_store rfl rfl tZ93d (by rfl) (by rfl) (by exact Nat.le_of_ble_eq_true rfl)) ?_
      rintro _ _ ⟨rfl, rfl⟩
      refine wl_det rfl rfl rfl (op_assign rfl) ?_
      refine wl_nil ?_
      refine st_tn ?_
      refine w_seq ?_
      refine w_block ?_
      refine w_seq ?_
      refine w_region ?_
      refine wl_det rfl rfl rfl (op_move rfl) ?_
      refine wl_det rfl rfl rfl (op_not_t rfl) ?_
      refine wl_det rfl rfl rfl (op_assign rfl) ?_
      refine wl_nil ?_
      refine st_tn ?_
      refine w_cond_f (rfl) ?_
      refine w_seq ?_
      refine w_region ?_
      refine wl_det rfl rfl rfl (op_move rfl) ?_
      refine wl_op [601] rfl rfl rfl rfl (op_fn Try.func64 rfl rfl rfl (operate_any s hg)) ?_
      rintro _ _ ⟨rfl, rfl⟩
      refine wl_det rfl rfl rfl (op_not rfl) ?_
      refine wl_det rfl rfl rfl (op_assign rfl) ?_
      refine wl_nil ?_
      refine st_tn ?_
      refine w_cond rfl (fun hc27 => ?_) (fun hc27 => ?_)
      · -- c27.t
        refine w_seq ?_
        refine w_region ?_
        refine wl_det rfl rfl rfl (op_assign rfl) ?_
        refine wl_nil ?_
        refine st_tn ?_
        refine w_ret ?_
        refine st_br ?_
        refine st_tr ?_
        refine st_ret (vs := [_]) [601, 602] Try.results48 ⟨rfl, trivial⟩ rfl ?_
        refine ⟨[(601, _), (602, _)], rfl, ?_⟩
        rw [syn_fail hc13 hff (by simpa using hc27)]; exact ⟨_, oper_perm hp, rfl, rfl⟩
      · -- c27.f
        refine w_skip ?_
        refine st_bn ?_
        refine st_tn ?_
        refine w_seq ?_
        refine w_region ?_
        refine wl_det rfl rfl rfl (op_fieldAddr (off := 0) rfl tF93_0d) ?_
        refine wl_det rfl rfl rfl (op_load1 rfl tO9d (Ent.lab (l := 6) rfl (says_cel 0))) ?_
        refine wl_det rfl rfl rfl (op_lenBs rfl Try.underlying9) ?_
        refine wl_det rfl rfl rfl (op_fieldAddr (off := 1) rfl tF93_1d) ?_
        refine wl_op0 [6] rfl rfl rfl (op_store rfl rfl tZ3d (by rfl) (by rfl) (by exact Nat.le_of_ble_eq_true rfl)) ?_
        rintro _ _ ⟨rfl, rfl⟩
        refine wl_det rfl rfl rfl (op_fieldAddr (off := 2) rfl tF93_2d) ?_
        refine wl_op0 [6] rfl rfl rfl (op_store rfl rfl tZ4d (by rfl) (by rfl) (by exact Nat.le_of_ble_eq_true rfl)) ?_
        rintro _ _ ⟨rfl, rfl⟩
        refine wl_nil ?_
        refine st_tn ?_
        refine w_seq ?_
        refine w_drawW (fun β => [⟨36, [], [], [], noW (_), false, [], []⟩, ⟨37, [0], [], [], noW (_), false, [], []⟩, ⟨38, [1], [], [], noW (_), false, [], []⟩, ⟨39, [2], [], [], noW (_), false, [], []⟩, ⟨40, [], [], [], noW (_), false, [], []⟩, ⟨41, [], [], [], noW (_), false, [], []⟩]) [] [0, 1, 6] [⟨36, [], [], false, [], []⟩, ⟨37, [0], [], false, [], []⟩, ⟨38, [1], [], false, [], []⟩, ⟨39, [2], [], false, [], []⟩, ⟨40, [], [], false, [], []⟩, ⟨41, [], [], false, [], []⟩] [[], [], [], [], [], []] [[], [], [], [], [], []] tMixd (fun _ => by rfl) (fun _ => by rfl) (by kernel_rfl) (by kernel_rfl) (by rfl) (by rfl)
            (fun β => ⟨.p rfl (by intro X; exact op_move rfl),
            ⟨.p rfl (by intro X; rintro _ _ ⟨rfl, rfl⟩; exact op_nilCheck rfl),
            ⟨.p rfl (by intro X; rintro _ _ ⟨rfl, rfl⟩; exact op_fieldAddr (off := 1) rfl tF90_1d),
            ⟨.p rfl (by intro X; rintro _ _ ⟨rfl, rfl⟩; exact op_load1 rfl tO88d (Ent.lab (l := 601) rfl (says_cel 1))),
            ⟨.p rfl (by intro X; exact op_move rfl),
            ⟨.p rfl (by intro X; exact op_loadA rfl tA93d (Ent.lab (l := 6) rfl (says_cel 0)) (Nat.le_of_ble_eq_true rfl)),
            trivial⟩⟩⟩⟩⟩⟩)
            (fun β β' => ⟨fun _ => by rfl, ⟨fun _ => by rfl, ⟨fun _ => by rfl, ⟨fun _ => by rfl, ⟨fun _ => by rfl, ⟨fun _ => by rfl, trivial⟩⟩⟩⟩⟩⟩) ?_
        intro β
        rintro _ _ ⟨rfl, rfl⟩ _ _ ⟨rfl, rfl⟩ _ _ ⟨rfl, rfl⟩ _ _ ⟨rfl, rfl⟩ _ _ ⟨rfl, rfl⟩ _ _ ⟨rfl, rfl⟩
        refine wl_norm (e' := [(39, _), (40, _), (41, _)]) (.cons rfl (.cons rfl (.cons rfl (.nil _)))) (by dsimp only [cond_false, cond_true, List.nil_append, List.cons_append]) ?_
        refine wl_op0 [602] rfl rfl rfl (op_mapUpdate (kt := KL) (encV := encF) (lab := 602) (v := ⟨f.data, f.data.length, true⟩) rfl rfl rfl tQ88d) ?_
        rintro _ _ ⟨rfl, rfl⟩
        refine wl_nil ?_
        refine st_tn ?_
        refine w_seq ?_
        refine w_region ?_
        refine wl_det rfl rfl rfl (op_assign rfl) ?_
        refine wl_nil ?_
        refine st_tn ?_
        refine w_ret ?_
        refine st_ret (vs := [_]) [601, 602] Try.results48 ⟨rfl, trivial⟩ rfl ?_
        refine ⟨[(601, _), (602, _)], rfl, ?_⟩
        rw [syn_done hc13 hff (by simpa using hc27)]; exact ⟨_, set_perm hp hg.inc n _, rfl, rfl⟩
    · -- hf-
      have hff : find s.fs n = none := by simpa using hf
      refine w_region ?_
      refine wl_det rfl rfl rfl (op_move rfl) ?_
      refine wl_det rfl rfl rfl (op_nilCheck rfl) ?_
      refine wl_det rfl rfl rfl (op_fieldAddr (off := 1) rfl tF90_1d) ?_
      refine wl_det rfl rfl rfl (op_load1 rfl tO88d (Ent.lab (l := 601) rfl (says_cel 1))) ?_
      refine wl_det rfl rfl rfl (op_move rfl) ?_
      refine wl_det rfl rfl rfl (op_val (v' := .tuple #[encF zeroF, .bool false]) (by exact look_val0 hlk hff) (op_lookup2 (kt := KL) (encV := encF) rfl rfl tQ88d tN93d (Mr.lab 602 rfl))) ?_
      refine wl_det rfl rfl rfl (op_move rfl) ?_
      refine wl_det rfl rfl rfl (op_extract rfl rfl) ?_
      refine wl_det rfl rfl rfl (op_extract rfl rfl) ?_
      refine wl_op [] rfl rfl rfl rfl (op_alloc (l := 6) tN93d) ?_
      rintro _ _ ⟨b6, rfl, rfl⟩
      refine wl_op0 [6] rfl rfl rfl (op_store rfl rfl tZ93d (by rfl) (by rfl) (by exact Nat.le_of_ble_eq_true rfl)) ?_
      rintro _ _ ⟨rfl, rfl⟩
      refine wl_det rfl rfl rfl (op_assign rfl) ?_
      refine wl_nil ?_
      refine st_tn ?_
      refine w_seq ?_
      refine w_block ?_
      refine w_seq ?_
      refine w_region ?_
      refine wl_det rfl rfl rfl (op_move rfl) ?_
      refine wl_det rfl rfl rfl (op_not_f rfl) ?_
      refine wl_det rfl rfl rfl (op_assign rfl) ?_
      refine wl_nil ?_
      refine st_tn ?_
      refine w_cond_t (rfl) ?_
      refine w_seq ?_
      refine w_region ?_
      refine wl_det rfl rfl rfl (op_assign rfl) ?_
      refine wl_nil ?_
      refine st_tn ?_
      refine w_ret ?_
      refine st_br ?_
      refine st_tr ?_
      refine st_ret (vs := [_]) [601, 602] Try.results48 ⟨rfl, trivial⟩ rfl ?_
      refine ⟨[(601, _), (602, _)], rfl, ?_⟩
      rw [syn_none hc13 hff]; exact ⟨l, hp, rfl, rfl⟩

theorem rem_ready {s : St} {n : Bs} (h : readyE s [n] ≠ 0) : remO s n = (readyE s [n], s) := by unfold remO; rw [if_pos h]
theorem rem_find {s : St} {n : Bs} (h : (findO s n).2 ≠ 0) : remO s n = ((findO s n).2, s) := by
  unfold findO at h ⊢
  by_cases hr : readyE s [n] ≠ 0
  · rw [if_pos hr]; exact rem_ready hr
  · rw [if_neg hr] at h ⊢
    unfold remO; rw [if_neg hr]
    cases hf : find s.fs n with
    | none => rfl
    | some f => rw [hf] at h; exact absurd rfl h
theorem find_ok {s : St} {n : Bs} (h : ¬ (findO s n).2 ≠ 0) : ¬ readyE s [n] ≠ 0 ∧ ∃ f, find s.fs n = some f := by
  unfold findO at h
  by_cases hr : readyE s [n] ≠ 0
  · rw [if_pos hr] at h; exact absurd hr h
  · refine ⟨hr, ?_⟩
    rw [if_neg hr] at h
    cases hf : find s.fs n with
    | none => rw [hf] at h; simp at h
    | some f => exact ⟨f, rfl⟩
theorem rem_fail {s : St} {n : Bs} {f : Fl} (h : ¬ readyE s [n] ≠ 0) (h2 : find s.fs n = some f) (h3 : ¬ (oper s).1 = true) : remO s n = (27, (oper s).2) := by unfold remO; rw [if_neg h, h2]; exact if_neg h3
theorem rem_done {s : St} {n : Bs} {f : Fl} (h : ¬ readyE s [n] ≠ 0) (h2 : find s.fs n = some f) (h3 : (oper s).1 = true) : remO s n = (0, { (oper s).2 with fs := delS s.fs n }) := by unfold remO; rw [if_neg h, h2]; exact if_pos h3
set_option maxHeartbeats 400000 in
set_option maxRecDepth 100000 in
theorem remove_any {σ : World} {F : List Res} {b m : Nat} {s : St} {l : Files} (n : Bs) (hg : DskM.Good s) (hp : l.Perm s.fs) (hn : n.length ≤ maxLen) :
    FnT Try.prog σ F 58 [.pointer (some ⟨b, 0, none⟩), .string (str n)] [(601, cel b (cellD s m) 90), (602, mp KL encF m l)] (fun u ρ => ∃ l', l'.Perm (remO s n).2.fs ∧ u = .int .i64 (remO s n).1 ∧ ρ = [(601, cel b (cellD (remO s n).2 m) 90), (602, mp KL encF m l')]) := by
  refine fn_of 24 Try.func58 rfl Try.ntmps58 rfl ?_
  refine w_seq ?_
  refine w_region ?_
  refine wl_det rfl rfl rfl (op_assign rfl) ?_
  refine wl_nil ?_
  refine st_tn ?_
  refine w_seq ?_
  refine w_seq ?_
  refine w_region ?_
  refine wl_det rfl rfl rfl (op_move rfl) ?_
  refine wl_det rfl rfl rfl (op_move rfl) ?_
  refine wl_det rfl rfl rfl (op_fn Try.func76 rfl rfl rfl (find_any (s := s) (m := m) n hg hp hn (celD 601 rfl) (Mr.lab 602 rfl))) ?_
  refine wl_det rfl rfl rfl (op_move rfl) ?_
  refine wl_det rfl rfl rfl (op_extract rfl rfl) ?_
  refine wl_det rfl rfl rfl (op_extract rfl rfl) ?_
  refine wl_op [] rfl rfl rfl rfl (op_alloc (l := 5) tN93d) ?_
  rintro _ _ ⟨b5, rfl, rfl⟩
  refine wl_op0 [5] rfl rfl rfl (op_store rfl rfl tZ93d (by rfl) (by rfl) (by exact Nat.le_of_ble_eq_true rfl)) ?_
  rintro _ _ ⟨rfl, rfl⟩
  refine wl_det rfl rfl rfl (op_assign rfl) ?_
  refine wl_nil ?_
  refine st_tn ?_
  refine w_seq ?_
  refine w_region ?_
  refine wl_det rfl rfl rfl (op_move rfl) ?_
  refine wl_det rfl rfl rfl (op_neq rfl rfl) ?_
  refine wl_nil ?_
  refine st_tn ?_
  refine w_cond_d rfl (fun hc14 => ?_) (fun hc14 => ?_)
  · -- c14.t
    refine w_seq ?_
    refine w_region ?_
    refine wl_det rfl rfl rfl (op_move rfl) ?_
    refine wl_det rfl rfl rfl (op_assign rfl) ?_
    refine wl_nil ?_
    refine st_tn ?_
    refine w_ret ?_
    refine st_tr ?_
    refine st_ret (vs := [_]) [601, 602] Try.results58 ⟨rfl, trivial⟩ rfl ?_
    refine ⟨[(601, _), (602, _)], rfl, ?_⟩
    rw [rem_find hc14]; exact ⟨l, hp, rfl, rfl⟩
  · -- c14.f
    obtain ⟨hr, f, hff⟩ := find_ok hc14
    refine w_skip ?_
    refine st_tn ?_
    refine w_seq ?_
    refine w_seq ?_
    refine w_region ?_
    refine wl_det rfl rfl rfl (op_move rfl) ?_
    refine wl_op [601] rfl rfl rfl rfl (op_fn Try.func64 rfl rfl rfl (operate_any s hg)) ?_
    rintro _ _ ⟨rfl, rfl⟩
    refine wl_det rfl rfl rfl (op_not rfl) ?_
    refine wl_nil ?_
    refine st_tn ?_
    refine w_cond rfl (fun hc18 => ?_) (fun hc18 => ?_)
    · -- c18.t
      refine w_seq ?_
      refine w_region ?_
      refine wl_det rfl rfl rfl (op_assign rfl) ?_
      refine wl_nil ?_
      refine st_tn ?_
      refine w_ret ?_
      refine st_tr ?_
      refine st_ret (vs := [_]) [601, 602] Try.results58 ⟨rfl, trivial⟩ rfl ?_
      refine ⟨[(601, _), (602, _)], rfl, ?_⟩
      rw [rem_fail hr hff (by simpa using hc18)]; exact ⟨_, oper_perm hp, rfl, rfl⟩
    · -- c18.f
      refine w_skip ?_
      refine st_tn ?_
      refine w_seq ?_
      refine w_region ?_
      refine wl_det rfl rfl rfl (op_move rfl) ?_
      refine wl_det rfl rfl rfl (op_nilCheck rfl) ?_
      refine wl_det rfl rfl rfl (op_fieldAddr (off := 1) rfl tF90_1d) ?_
      refine wl_det rfl rfl rfl (op_load1 rfl tO88d (Ent.lab (l := 601) rfl (says_cel 1))) ?_
      refine wl_det rfl rfl rfl (op_move rfl) ?_
      refine wl_op0 [602] rfl rfl rfl (op_delete (kt := KL) (encV := encF) (lab := 602) rfl rfl tQ88d) ?_
      rintro _ _ ⟨rfl, rfl⟩
      refine wl_nil ?_
      refine st_tn ?_
      refine w_seq ?_
      refine w_region ?_
      refine wl_det rfl rfl rfl (op_assign rfl) ?_
      refine wl_nil ?_
      refine st_tn ?_
      refine w_ret ?_
      refine st_ret (vs := [_]) [601, 602] Try.results58 ⟨rfl, trivial⟩ rfl ?_
      refine ⟨[(601, _), (602, _)], rfl, ?_⟩
      rw [rem_done hr hff (by simpa using hc18)]; exact ⟨_, del_perm hp hg.inc n, rfl, rfl⟩

end Go.Proofs.Ytcbigmgakdanjaa
namespace Go.Proofs.Ytcbigmgakdanjaa
open Go Go.SL Go.RowKit Go.DskM
set_option linter.unusedVariables false
set_option linter.unusedSimpArgs false
theorem tA93e : aggB Try.prog 93 3 = true := by kernel_rfl
theorem tF90_1e : fieldB Try.prog 90 1 1 = true := by kernel_rfl
theorem tF90_2e : fieldB Try.prog 90 2 2 = true := by kernel_rfl
theorem tF90_3e : fieldB Try.prog 90 3 3 = true := by kernel_rfl
theorem tF90_4e : fieldB Try.prog 90 4 4 = true := by kernel_rfl
theorem tF93_0e : fieldB Try.prog 93 0 0 = true := by kernel_rfl
theorem tF93_1e : fieldB Try.prog 93 1 1 = true := by kernel_rfl
theorem tF93_2e : fieldB Try.prog 93 2 2 = true := by kernel_rfl
theorem tMixe : Try.prog.follows .mixedOrders = true := by kernel_rfl
theorem tN93e : (Try.prog.info? 93).bind (·.zero) = some (Value.agg #[Value.string .empty, Value.int .i64 0, Value.bool false]) := by kernel_rfl
theorem tO3e : oneB Try.prog 3 = true := by kernel_rfl
theorem tO4e : oneB Try.prog 4 = true := by kernel_rfl
theorem tO88e : oneB Try.prog 88 = true := by kernel_rfl
theorem tO9e : oneB Try.prog 9 = true := by kernel_rfl
theorem tQ88e : mapB Try.prog 88 9 93 KL.desc := ⟨Try.underlying88, Try.underlying9⟩
theorem tS35e : sliceB Try.prog 35 9 1 = true := by kernel_rfl
theorem tS66e : sliceB Try.prog 66 3 1 = true := by kernel_rfl
theorem tZ3e : (Try.prog.info? 3).map (·.size) = some 1 := by kernel_rfl
theorem tZ4e : (Try.prog.info? 4).map (·.size) = some 1 := by kernel_rfl
theorem tZ9e : (Try.prog.info? 9).map (·.size) = some 1 := by kernel_rfl
theorem tZ93e : (Try.prog.info? 93).map (·.size) = some 3 := by kernel_rfl

theorem setS_mid {k : Bs} {f f' : Fl} {R : Files} : ∀ {Q : Files}, (∀ p ∈ Q, p.1 < k) → setS (Q ++ (k, f) :: R) k f' = Q ++ (k, f') :: R
  | [], _ => by
    show setS ((k, f) :: R) k f' = _
    unfold setS; rw [if_neg (lt_irrefl k), if_pos rfl]; rfl
  | q :: Q, h => by
    have h1 := h q List.mem_cons_self
    show setS (q :: (Q ++ (k, f) :: R)) k f' = _
    unfold setS
    rw [if_neg (lt_asymm h1), if_neg (ne_of_lt h1).symm, setS_mid fun p hp => h p (List.mem_cons_of_mem _ hp)]; rfl
theorem delS_none {k : Bs} {Q : Files} (h : ∀ p ∈ Q, p.1 ≠ k) : delS Q k = Q := List.filter_eq_self.2 fun p hp => decide_eq_true (h p hp)
theorem delS_mid {k : Bs} {f : Fl} {Q R : Files} (h : ∀ p ∈ Q, p.1 < k) (h2 : ∀ p ∈ R, k < p.1) : delS (Q ++ (k, f) :: R) k = Q ++ R := by
  unfold delS
  rw [List.filter_append, List.filter_cons]
  have h3 := delS_none fun p hp => ne_of_lt (h p hp)
  have h4 := delS_none fun p hp => (ne_of_lt (h2 p hp)).symm
  unfold delS at h3 h4
  rw [h3, h4]; simp
/-- What Start has done, and what is left. -/
structure SInv (fs : Files) (sc : List Int) (i : Nat) (r : List Int) (D : Files) : Prop where
  ex : ∃ Q, startF fs sc = Q ++ startF (fs.drop i) r ∧ D.Perm (Q ++ fs.drop i) ∧ (∀ p ∈ Q, ∀ q ∈ fs.drop i, p.1 < q.1) ∧ DskM.Inc Q
theorem SInv.init {fs : Files} {sc : List Int} {D : Files} (h : D.Perm fs) : SInv fs sc 0 sc D := ⟨[], by simp, by simpa using h, by simp, List.Pairwise.nil⟩
theorem SInv.fin {fs : Files} {sc : List Int} {i : Nat} {r : List Int} {D : Files} (h : SInv fs sc i r D) (hi : fs.length ≤ i) : D.Perm (startF fs sc) := by
  obtain ⟨Q, h1, h2, _⟩ := h.ex
  rw [List.drop_of_length_le hi] at h1 h2
  rw [h1]; simpa [startF] using h2
theorem drop_at {fs : Files} {i : Nat} {p : Bs × Fl} (h : fs[i]? = some p) : fs.drop i = p :: fs.drop (i + 1) := by
  obtain ⟨hi, rfl⟩ := List.getElem?_eq_some_iff.1 h
  exact (List.drop_eq_getElem_cons hi)
section
variable {fs : Files} {sc : List Int} {i : Nat} {r : List Int} {D : Files} {p : Bs × Fl}
theorem inc_mid {Q R : Files} (hi : DskM.Inc fs) (hx : fs[i]? = some p) (h3 : ∀ p ∈ Q, ∀ q ∈ fs.drop i, p.1 < q.1) (h4 : DskM.Inc Q) : DskM.Inc (Q ++ p :: fs.drop (i + 1)) ∧ (∀ q ∈ Q, q.1 < p.1) ∧ (∀ q ∈ fs.drop (i + 1), p.1 < q.1) := by
  rw [drop_at hx] at h3
  have h5 : DskM.Inc (p :: fs.drop (i + 1)) := by rw [← drop_at hx]; exact List.Pairwise.drop hi
  exact ⟨List.pairwise_append.2 ⟨h4, h5, h3⟩, fun q hq => h3 q hq p List.mem_cons_self, (List.pairwise_cons.1 h5).1⟩
theorem SInv.look (h : SInv fs sc i r D) (hi : DskM.Inc fs) (hx : fs[i]? = some p) : lookK KL D p.1 = some p.2 := by
  obtain ⟨Q, h1, h2, h3, h4⟩ := h.ex
  rw [drop_at hx] at h2
  obtain ⟨h5, _, _⟩ := inc_mid (R := []) hi hx h3 h4
  rw [look_perm h2 ((h2.map Prod.fst).nodup_iff.2 h5.nod)]
  exact find_of h5 (by simp)
theorem SInv.lost (h : SInv fs sc i r D) (hi : DskM.Inc fs) (hx : fs[i]? = some p) (hd : p.2.dur = false) : SInv fs sc (i + 1) r (delK KL D p.1) := by
  obtain ⟨Q, h1, h2, h3, h4⟩ := h.ex
  obtain ⟨h5, h6, h7⟩ := inc_mid (R := []) hi hx h3 h4
  rw [drop_at hx] at h1 h2
  have h8 : startF (p :: fs.drop (i + 1)) r = startF (fs.drop (i + 1)) r := by
    conv => lhs; unfold startF
    rw [if_neg (by simp [hd])]
  rw [h8] at h1
  refine ⟨Q, h1, ?_, fun a ha b hb => lt_trans (h6 a ha) (h7 b hb), h4⟩
  have := del_perm h2 h5 p.1
  rwa [show (Q ++ p :: fs.drop (i + 1)) = (Q ++ (p.1, p.2) :: fs.drop (i + 1)) from rfl, delS_mid h6 h7] at this
theorem SInv.same (h : SInv fs sc i r D) (hi : DskM.Inc fs) (hx : fs[i]? = some p) (hd : p.2.dur = true) (hz : p.2.data.length - p.2.syn = 0) : SInv fs sc (i + 1) r D := by
  obtain ⟨Q, h1, h2, h3, h4⟩ := h.ex
  obtain ⟨h5, h6, h7⟩ := inc_mid (R := []) hi hx h3 h4
  rw [drop_at hx] at h1 h2
  have h8 : startF (p :: fs.drop (i + 1)) r = p :: startF (fs.drop (i + 1)) r := by
    conv => lhs; unfold startF
    rw [if_pos hd, if_pos hz]
  rw [h8] at h1
  refine ⟨Q ++ [p], by rw [h1]; simp, by simpa using h2, fun a ha b hb => ?_, List.pairwise_append.2 ⟨h4, List.pairwise_singleton _ _, fun a ha b hb => ?_⟩⟩
  · rcases List.mem_append.1 ha with ha | ha
    · exact lt_trans (h6 a ha) (h7 b hb)
    · simp at ha; subst ha; exact h7 b hb
  · simp at hb; subst hb; exact h6 a ha
theorem SInv.cut_ {x : Int} (h : SInv fs sc i r D) (hi : DskM.Inc fs) (hx : fs[i]? = some p) (hd : p.2.dur = true) (hz : ¬ p.2.data.length - p.2.syn = 0) (hr : r.head?.getD 0 = x) : SInv fs sc (i + 1) r.tail (setK KL D p.1 (cut p.2 x)) := by
  obtain ⟨Q, h1, h2, h3, h4⟩ := h.ex
  obtain ⟨h5, h6, h7⟩ := inc_mid (R := []) hi hx h3 h4
  rw [drop_at hx] at h1 h2
  have h8 : startF (p :: fs.drop (i + 1)) r = (p.1, cut p.2 x) :: startF (fs.drop (i + 1)) r.tail := by
    conv => lhs; unfold startF
    rw [if_pos hd, if_neg hz, hr]
  rw [h8] at h1
  refine ⟨Q ++ [(p.1, cut p.2 x)], by rw [h1]; simp, ?_, fun a ha b hb => ?_, List.pairwise_append.2 ⟨h4, List.pairwise_singleton _ _, fun a ha b hb => ?_⟩⟩
  · have := set_perm h2 h5 p.1 (cut p.2 x)
    rw [show (Q ++ p :: fs.drop (i + 1)) = (Q ++ (p.1, p.2) :: fs.drop (i + 1)) from rfl, setS_mid h6] at this
    simpa using this
  · rcases List.mem_append.1 ha with ha | ha
    · exact lt_trans (h6 a ha) (h7 b hb)
    · simp at ha; subst ha; exact h7 b hb
  · simp at hb; subst hb; exact h6 a ha
end
theorem sta_down {s : St} {sc : List Int} (h : s.down = true) : staO s sc = { s with fs := startF s.fs sc, down := false, lim := false, left := 0 } := by unfold staO; rw [if_pos h]
theorem sta_up {s : St} {sc : List Int} (h : s.down = false) : staO s sc = s := by unfold staO; rw [if_neg (by simp [h])]
set_option maxHeartbeats 2000000 in
set_option maxRecDepth 100000 in
theorem start_any {σ : World} {F : List Res} {b m : Nat} {s : St} {l : Files} {a : Option Addr} {c : Nat} {sc : List Int} (hg : DskM.Good s) (hp : l.Perm s.fs) (hsc : Sl σ F SL.encZ 1 (.slice a sc.length c) sc) :
    FnT Try.prog σ F 38 [.pointer (some ⟨b, 0, none⟩), .slice a sc.length c] [(601, cel b (cellD s m) 90), (602, mp KL encF m l)] (fun u ρ => ∃ l', l'.Perm (staO s sc).fs ∧ u = .tuple #[] ∧ ρ = [(601, cel b (cellD (staO s sc) m) 90), (602, mp KL encF m l')]) := by
  refine fn_of 97 Try.func38 rfl Try.ntmps38 rfl ?_
  have huse := hg.use
  have hcap := hg.cap
  have hcnt := hg.cnt
  have hkl : (keysOf s.fs).length = s.fs.length := by simp [keysOf]
  refine w_seq ?_
  refine w_seq ?_
  refine w_region ?_
  refine wl_det rfl rfl rfl (op_move rfl) ?_
  refine wl_det rfl rfl rfl (op_val (v' := .bool false) (by simp) (op_eqPtr rfl Try.underlying22)) ?_
  refine wl_det rfl rfl rfl (op_move rfl) ?_
  refine wl_wanted_det rfl rfl rfl rfl rfl rfl rfl (op_move rfl) ?_
  refine wl_wanted_det rfl rfl rfl rfl rfl rfl rfl (op_nilCheck rfl) ?_
  refine wl_wanted_det rfl rfl rfl rfl rfl rfl rfl (op_fieldAddr (off := 2) rfl tF90_2e) ?_
  refine wl_wanted_det rfl rfl rfl rfl rfl rfl rfl (op_load1 rfl tO4e (Ent.lab (l := 601) rfl (says_cel 2))) ?_
  refine wl_wanted_det rfl rfl rfl rfl rfl rfl rfl (op_not rfl) ?_
  refine wl_det rfl rfl rfl (op_pick_f rfl rfl) ?_
  refine wl_nil ?_
  refine st_tn ?_
  refine w_cond rfl (fun hc18 => ?_) (fun hc18 => ?_)
  · -- c18.t
    refine w_ret ?_
    refine st_tr ?_
    refine st_ret (vs := []) [601, 602] Try.results38 trivial rfl ?_
    refine ⟨[(601, _), (602, _)], rfl, ?_⟩
    rw [sta_up (by simpa using hc18)]; exact ⟨l, hp, rfl, rfl⟩
  · -- c18.f
    have hdn : s.down = true := by simpa using hc18
    refine w_skip ?_
    refine st_tn ?_
    refine w_seq ?_
    refine w_seq ?_
    refine w_region ?_
    refine wl_det rfl rfl rfl (op_move rfl) ?_
    refine wl_det rfl rfl rfl (op_nilCheck rfl) ?_
    refine wl_det rfl rfl rfl (op_fieldAddr (off := 1) rfl tF90_1e) ?_
    refine wl_det rfl rfl rfl (op_load1 rfl tO88e (Ent.lab (l := 601) rfl (says_cel 1))) ?_
    refine wl_op [] rfl rfl rfl rfl (op_fn Try.func61 rfl rfl rfl (keys_any 23)) ?_
    rintro _ _ ⟨b23, rfl, rfl⟩
    refine wl_op [] rfl rfl rfl rfl (op_fn Try.func60 rfl rfl rfl (sortedK 24 (Ent.lab (l := 23) rfl (says_cel 0)) (Mr.lab 602 rfl) hp hg.inc (name_len hg) hg.cnt)) ?_
    rintro _ _ ⟨a24, c24, rfl, rfl⟩
    refine wl_det rfl rfl rfl (op_lenT rfl tS35e (Sl.ent (Sl.lab 24 rfl (by unfold maxLen; omega)))) ?_
    refine wl_det rfl rfl rfl (op_move rfl) ?_
    refine wl_nil ?_
    refine st_tn ?_
    refine w_block ?_
    refine w_loopQ (X := List Int × Option Addr × Nat × Nat × List (Bs × Fl)) (fun z => z.2.2.2.1 ≤ s.fs.length ∧ Sl σ F SL.encZ 1 (.slice z.2.1 z.1.length z.2.2.1) z.1 ∧ SInv s.fs sc z.2.2.2.1 z.1 z.2.2.2.2) (fun z => [(1, .slice (z.2.1) (z.1).length (z.2.2.1)), (26, .int .i64 (z.2.2.2.1))]) (fun z => [(602, mp KL encF m (z.2.2.2.2))]) (fun z => s.fs.length - z.2.2.2.1) ((sc, a, c, 0, l)) [(0, _), (24, _), (25, _)] [(601, _), (23, _), (24, _)] [602, 601, 23, 24] rfl (rfl) (.cons rfl (.cons rfl (.nil _))) (.cons rfl (.cons rfl (.cons rfl (.nil _)))) (by
        try dsimp only
        exact ⟨Nat.zero_le _, hsc, SInv.init hp⟩) ?_
    rintro ⟨r, a_r, c_r, i, D⟩ ⟨hi, hsr, hI⟩
    refine w_norm2 (by dsimp only [List.cons_append, List.nil_append]) (by dsimp only [List.cons_append, List.nil_append]) ?_
    try dsimp only at hi hsr hI ⊢
    refine w_seq ?_
    refine w_region ?_
    refine wl_det rfl rfl rfl (op_lss rfl rfl) ?_
    refine wl_nil ?_
    refine st_tn ?_
    refine w_seq ?_
    refine w_cond_d rfl (fun hc27 => ?_) (fun hc27 => ?_)
    · -- c27.t
      obtain ⟨p, hx⟩ := getE (l := s.fs) (i := i) (by omega)
      have hk : (keysOf s.fs)[i]? = some p.1 := by rw [keysOf, List.getElem?_map, hx]; rfl
      have hlook := hI.look hg.inc hx
      have hpm := List.mem_of_getElem? hx
      have hsy : p.2.syn ≤ p.2.data.length := hg.syn p hpm
      have hpl : p.2.data.length ≤ used s.fs := le_used hpm
      refine w_skip ?_
      refine st_tn ?_
      refine w_seq ?_
      refine w_block ?_
      refine w_seq ?_
      refine w_region ?_
      refine wl_det rfl rfl rfl (op_idx rfl rfl tS35e (Sl.ent (Sl.lab 24 rfl (by unfold maxLen; omega))) (by omega)) ?_
      refine wl_det rfl rfl rfl (op_ldx rfl tO9e (Sl.lab 24 rfl (by unfold maxLen; omega)) (by assumption) (by rfl)) ?_
      refine wl_det rfl rfl rfl (op_assign rfl) ?_
      refine wl_nil ?_
      refine st_tn ?_
      refine w_seq ?_
      refine w_region ?_
      refine wl_det rfl rfl rfl (op_move rfl) ?_
      refine wl_det rfl rfl rfl (op_nilCheck rfl) ?_
      refine wl_det rfl rfl rfl (op_fieldAddr (off := 1) rfl tF90_1e) ?_
      refine wl_det rfl rfl rfl (op_load1 rfl tO88e (Ent.lab (l := 601) rfl (says_cel 1))) ?_
      refine wl_det rfl rfl rfl (op_move rfl) ?_
      refine wl_det rfl rfl rfl (op_val (v' := encF p.2) (by rw [hlook]; rfl) (op_lookup (kt := KL) (encV := encF) rfl rfl tQ88e tN93e (Mr.lab 602 rfl))) ?_
      refine wl_op [] rfl rfl rfl rfl (op_alloc (l := 6) tN93e) ?_
      rintro _ _ ⟨b6, rfl, rfl⟩
      refine wl_op0 [6] rfl rfl rfl (op_store rfl rfl tZ93e (by rfl) (by rfl) (by exact Nat.le_of_ble_eq_true rfl)) ?_
      rintro _ _ ⟨rfl, rfl⟩
      refine wl_nil ?_
      refine st_tn ?_
      refine w_seq ?_
      refine w_seq ?_
      refine w_region ?_
      refine wl_det rfl rfl rfl (op_fieldAddr (off := 2) rfl tF93_2e) ?_
      refine wl_det rfl rfl rfl (op_load1 rfl tO4e (Ent.lab (l := 6) rfl (says_cel 2))) ?_
      refine wl_det rfl rfl rfl (op_not rfl) ?_
      refine wl_nil ?_
      refine st_tn ?_
      refine w_cond rfl (fun hc38 => ?_) (fun hc38 => ?_)
      · -- c38.t
        refine w_seq ?_
        refine w_region ?_
        refine wl_det rfl rfl rfl (op_move rfl) ?_
        refine wl_det rfl rfl rfl (op_nilCheck rfl) ?_
        refine wl_det rfl rfl rfl (op_fieldAddr (off := 1) rfl tF90_1e) ?_
        refine wl_det rfl rfl rfl (op_load1 rfl tO88e (Ent.lab (l := 601) rfl (says_cel 1))) ?_
        refine wl_det rfl rfl rfl (op_move rfl) ?_
        refine wl_op0 [602] rfl rfl rfl (op_delete (kt := KL) (encV := encF) (lab := 602) rfl rfl tQ88e) ?_
        rintro _ _ ⟨rfl, rfl⟩
        refine wl_nil ?_
        refine st_tn ?_
        refine w_exit ?_
        refine st_te ?_
        refine st_be ?_
        refine st_tn ?_
        refine w_region ?_
        refine wl_det rfl rfl rfl (op_add' rfl rfl (by omega)) ?_
        refine wl_det rfl rfl rfl (op_move rfl) ?_
        refine wl_nil ?_
        refine st_roundQ (x := (r, a_r, c_r, i, D)) ((r, _, _, i + 1, delK KL D p.1)) [602, 601, 23, 24] rfl (rfl) (.cons rfl (.cons rfl (.nil _))) (.cons rfl (.cons rfl (.cons rfl (.nil _)))) (by
            try dsimp only
            exact ⟨by omega, hsr, hI.lost hg.inc hx (by simpa using hc38)⟩) (by
            try dsimp only
            omega) 
      · -- c38.f
        refine w_skip ?_
        refine st_tn ?_
        refine w_seq ?_
        refine w_region ?_
        refine wl_det rfl rfl rfl (op_fieldAddr (off := 0) rfl tF93_0e) ?_
        refine wl_det rfl rfl rfl (op_load1 rfl tO9e (Ent.lab (l := 6) rfl (says_cel 0))) ?_
        refine wl_det rfl rfl rfl (op_lenBs rfl Try.underlying9) ?_
        refine wl_det rfl rfl rfl (op_fieldAddr (off := 1) rfl tF93_1e) ?_
        refine wl_det rfl rfl rfl (op_load1 rfl tO3e (Ent.lab (l := 6) rfl (says_cel 1))) ?_
        refine wl_det rfl rfl rfl (op_val (v' := .int .i64 ((p.2.data.length - p.2.syn : Nat) : Int)) (by congr 1; omega) (op_sub' rfl rfl (by omega))) ?_
        refine wl_det rfl rfl rfl (op_assign rfl) ?_
        refine wl_nil ?_
        refine st_tn ?_
        refine w_seq ?_
        refine w_seq ?_
        refine w_region ?_
        refine wl_det rfl rfl rfl (op_move rfl) ?_
        refine wl_det rfl rfl rfl (op_eql rfl rfl) ?_
        refine wl_nil ?_
        refine st_tn ?_
        refine w_cond_d rfl (fun hc51 => ?_) (fun hc51 => ?_)
        · -- c51.t
          refine w_exit ?_
          refine st_te ?_
          refine st_be ?_
          refine st_tn ?_
          refine w_region ?_
          refine wl_det rfl rfl rfl (op_add' rfl rfl (by omega)) ?_
          refine wl_det rfl rfl rfl (op_move rfl) ?_
          refine wl_nil ?_
          refine st_roundQ (x := (r, a_r, c_r, i, D)) ((r, _, _, i + 1, D)) [602, 601, 23, 24] rfl (rfl) (.cons rfl (.cons rfl (.nil _))) (.cons rfl (.cons rfl (.cons rfl (.nil _)))) (by
              try dsimp only
              exact ⟨by omega, hsr, hI.same hg.inc hx (by simpa using hc38) (by omega)⟩) (by
              try dsimp only
              omega) 
        · -- c51.f
          refine w_skip ?_
          refine st_tn ?_
          refine w_seq ?_
          refine w_region ?_
          refine wl_det rfl rfl rfl (op_assign rfl) ?_
          refine wl_nil ?_
          refine st_tn ?_
          refine w_seq ?_
          refine w_seq ?_
          refine w_region ?_
          refine wl_det rfl rfl rfl (op_move rfl) ?_
          refine wl_det rfl rfl rfl (op_lenT rfl tS66e (Sl.ent (by first | exact Sl.app (by assumption) _ | exact Sl.app (Sl.app (by assumption) _) _))) ?_
          refine wl_det rfl rfl rfl (op_gtr rfl rfl) ?_
          refine wl_nil ?_
          refine st_tn ?_
          refine w_cond_d rfl (fun hc54 => ?_) (fun hc54 => ?_)
          · -- c54.t
            obtain ⟨x, hx0⟩ := getE (l := r) (i := 0) (by omega)
            have hhd : r.head?.getD 0 = x := by rw [List.head?_eq_getElem?, hx0]; rfl
            have hks := keep_spec x (p.2.data.length - p.2.syn)
            refine w_drawW (fun β => [⟨55, [], [], [], noW (_), false, [], []⟩, ⟨56, [0], [], [], noW (_), false, [], []⟩, ⟨57, [1], [], [], noW (_), false, [], []⟩, ⟨58, [], [], [], noW (_), false, [], []⟩, ⟨59, [3], [], [], noW (_), false, [], []⟩, ⟨8, [2], [], [], noW (_), false, [], []⟩]) [] [1] [⟨55, [], [], false, [], []⟩, ⟨56, [0], [], false, [], []⟩, ⟨57, [1], [], false, [], []⟩, ⟨58, [], [], false, [], []⟩, ⟨59, [3], [], false, [], []⟩, ⟨8, [2], [], false, [], []⟩] [[], [], [], [], [], []] [[], [], [], [], [], []] tMixe (fun _ => by rfl) (fun _ => by rfl) (by kernel_rfl) (by kernel_rfl) (by rfl) (by rfl)
                (fun β => ⟨.p rfl (by intro X; exact op_move rfl),
                ⟨.p rfl (by intro X; rintro _ _ ⟨rfl, rfl⟩; exact op_idx (i := 0) rfl rfl tS66e (Sl.ent (Sl.app (Sl.app hsr X) _)) (by omega)),
                ⟨.p rfl (by intro X; rintro _ _ ⟨rfl, rfl⟩; exact op_ldx rfl tO3e (by first | exact Sl.app (by assumption) _ | exact Sl.app (Sl.app (by assumption) _) _) (by assumption) (by rfl)),
                ⟨.p rfl (by intro X; exact op_move rfl),
                ⟨.p rfl (by intro X; rintro _ _ ⟨rfl, rfl⟩; exact op_val (v' := .slice (SL.sub a_r c_r 1 1) r.tail.length (c_r - 1)) (by rw [List.length_tail]) (op_sliceL (lo := 1) (l := r) rfl rfl tS66e (Sl.app (Sl.app hsr X) _) (by omega))),
                ⟨.p rfl (by intro X; rintro _ _ ⟨rfl, rfl⟩; exact op_assign rfl),
                trivial⟩⟩⟩⟩⟩⟩)
                (fun β β' => ⟨fun _ => by rfl, ⟨fun _ => by rfl, ⟨fun _ => by rfl, ⟨fun _ => by rfl, ⟨fun _ => by rfl, ⟨fun _ => by rfl, trivial⟩⟩⟩⟩⟩⟩) ?_
            intro β
            rintro _ _ ⟨rfl, rfl⟩ _ _ ⟨rfl, rfl⟩ _ _ ⟨rfl, rfl⟩ _ _ ⟨rfl, rfl⟩ _ _ ⟨rfl, rfl⟩ _ _ ⟨rfl, rfl⟩
            refine wl_norm (e' := [(0, _), (5, _), (6, _), (7, _), (8, _), (24, _), (25, _), (26, _), (59, _)]) (.cons rfl (.cons rfl (.cons rfl (.cons rfl (.cons rfl (.cons rfl (.cons rfl (.cons rfl (.cons rfl (.nil _)))))))))) (by dsimp only [cond_false, cond_true, List.nil_append, List.cons_append]) ?_
            refine wl_det rfl rfl rfl (op_assign rfl) ?_
            refine wl_nil ?_
            refine st_tn ?_
            refine w_seq ?_
            refine w_region ?_
            refine wl_det rfl rfl rfl (op_move rfl) ?_
            refine wl_det rfl rfl rfl (op_move rfl) ?_
            refine wl_det rfl rfl rfl (op_add' rfl rfl (by omega)) ?_
            refine wl_det rfl rfl rfl (op_rem rfl rfl (by omega)) ?_
            refine wl_det rfl rfl rfl (op_assign rfl) ?_
            refine wl_nil ?_
            refine st_tn ?_
            refine w_seq ?_
            refine w_seq ?_
            refine w_region ?_
            refine wl_det rfl rfl rfl (op_move rfl) ?_
            refine wl_det rfl rfl rfl (op_lss rfl rfl) ?_
            refine wl_nil ?_
            refine st_tn ?_
            refine w_cond_d rfl (fun hc65 => ?_) (fun hc65 => ?_)
            · -- c65.t
              have hkk : ((keep x (p.2.data.length - p.2.syn) : Nat) : Int) = x.tmod (((p.2.data.length - p.2.syn : Nat) : Int) + 1) + (((p.2.data.length - p.2.syn : Nat) : Int) + 1) := by rw [hks.1, if_pos hc65]
              have hkl2 := hks.2
              refine w_region ?_
              refine wl_det rfl rfl rfl (op_move rfl) ?_
              refine wl_det rfl rfl rfl (op_move rfl) ?_
              refine wl_det rfl rfl rfl (op_add' rfl rfl (by omega)) ?_
              refine wl_det rfl rfl rfl (op_add' rfl rfl (by omega)) ?_
              refine wl_det rfl rfl rfl (op_assign rfl) ?_
              refine wl_nil ?_
              refine st_tn ?_
              refine w_seq ?_
              refine w_region ?_
              refine wl_det rfl rfl rfl (op_fieldAddr (off := 1) rfl tF93_1e) ?_
              refine wl_det rfl rfl rfl (op_load1 rfl tO3e (Ent.lab (l := 6) rfl (says_cel 1))) ?_
              refine wl_det rfl rfl rfl (op_move rfl) ?_
              refine wl_det rfl rfl rfl (op_val (v' := .int .i64 ((p.2.syn + keep x (p.2.data.length - p.2.syn) : Nat) : Int)) (by congr 1; omega) (op_add' rfl rfl (by omega))) ?_
              refine wl_det rfl rfl rfl (op_fieldAddr (off := 1) rfl tF93_1e) ?_
              refine wl_op0 [6] rfl rfl rfl (op_store rfl rfl tZ3e (by rfl) (by rfl) (by exact Nat.le_of_ble_eq_true rfl)) ?_
              rintro _ _ ⟨rfl, rfl⟩
              refine wl_nil ?_
              refine st_tn ?_
              refine w_seq ?_
              refine w_region ?_
              refine wl_det rfl rfl rfl (op_fieldAddr (off := 0) rfl tF93_0e) ?_
              refine wl_det rfl rfl rfl (op_load1 rfl tO9e (Ent.lab (l := 6) rfl (says_cel 0))) ?_
              refine wl_det rfl rfl rfl (op_fieldAddr (off := 1) rfl tF93_1e) ?_
              refine wl_det rfl rfl rfl (op_load1 rfl tO3e (Ent.lab (l := 6) rfl (says_cel 1))) ?_
              refine wl_det rfl rfl rfl (op_sliceRBs rfl rfl Try.underlying9 (by omega)) ?_
              refine wl_det rfl rfl rfl (op_fieldAddr (off := 0) rfl tF93_0e) ?_
              refine wl_op0 [6] rfl rfl rfl (op_store rfl rfl tZ9e (by rfl) (by rfl) (by exact Nat.le_of_ble_eq_true rfl)) ?_
              rintro _ _ ⟨rfl, rfl⟩
              refine wl_nil ?_
              refine st_tn ?_
              refine w_drawW (fun β => [⟨81, [], [], [], noW (_), false, [], []⟩, ⟨82, [0], [], [], noW (_), false, [], []⟩, ⟨83, [1], [], [], noW (_), false, [], []⟩, ⟨84, [2], [], [], noW (_), false, [], []⟩, ⟨85, [], [], [], noW (_), false, [], []⟩, ⟨86, [], [], [], noW (_), false, [], []⟩]) [] [0, 5, 6] [⟨81, [], [], false, [], []⟩, ⟨82, [0], [], false, [], []⟩, ⟨83, [1], [], false, [], []⟩, ⟨84, [2], [], false, [], []⟩, ⟨85, [], [], false, [], []⟩, ⟨86, [], [], false, [], []⟩] [[], [], [], [], [], []] [[], [], [], [], [], []] tMixe (fun _ => by rfl) (fun _ => by rfl) (by kernel_rfl) (by kernel_rfl) (by rfl) (by rfl)
                  (fun β => ⟨.p rfl (by intro X; exact op_move rfl),
                  ⟨.p rfl (by intro X; rintro _ _ ⟨rfl, rfl⟩; exact op_nilCheck rfl),
                  ⟨.p rfl (by intro X; rintro _ _ ⟨rfl, rfl⟩; exact op_fieldAddr (off := 1) rfl tF90_1e),
                  ⟨.p rfl (by intro X; rintro _ _ ⟨rfl, rfl⟩; exact op_load1 rfl tO88e (Ent.lab (l := 601) rfl (says_cel 1))),
                  ⟨.p rfl (by intro X; exact op_move rfl),
                  ⟨.p rfl (by intro X; exact op_loadA rfl tA93e (Ent.lab (l := 6) rfl (says_cel 0)) (Nat.le_of_ble_eq_true rfl)),
                  trivial⟩⟩⟩⟩⟩⟩)
                  (fun β β' => ⟨fun _ => by rfl, ⟨fun _ => by rfl, ⟨fun _ => by rfl, ⟨fun _ => by rfl, ⟨fun _ => by rfl, ⟨fun _ => by rfl, trivial⟩⟩⟩⟩⟩⟩) ?_
              intro β
              rintro _ _ ⟨rfl, rfl⟩ _ _ ⟨rfl, rfl⟩ _ _ ⟨rfl, rfl⟩ _ _ ⟨rfl, rfl⟩ _ _ ⟨rfl, rfl⟩ _ _ ⟨rfl, rfl⟩
              refine wl_norm (e' := [(0, _), (1, _), (24, _), (25, _), (26, _), (84, _), (85, _), (86, _)]) (.cons rfl (.cons rfl (.cons rfl (.cons rfl (.cons rfl (.cons rfl (.cons rfl (.cons rfl (.nil _))))))))) (by dsimp only [cond_false, cond_true, List.nil_append, List.cons_append]) ?_
              refine wl_op0 [602] rfl rfl rfl (op_mapUpdate (kt := KL) (encV := encF) (lab := 602) (v := cut p.2 x) rfl rfl rfl tQ88e) ?_
              rintro _ _ ⟨rfl, rfl⟩
              refine wl_nil ?_
              refine st_bn ?_
              refine st_tn ?_
              refine w_region ?_
              refine wl_det rfl rfl rfl (op_add' rfl rfl (by omega)) ?_
              refine wl_det rfl rfl rfl (op_move rfl) ?_
              refine wl_nil ?_
              refine st_roundQ (x := (r, a_r, c_r, i, D)) ((r.tail, _, _, i + 1, setK KL D p.1 (cut p.2 x))) [602, 601, 23, 24] rfl (rfl) (.cons rfl (.cons rfl (.nil _))) (.cons rfl (.cons rfl (.cons rfl (.nil _)))) (by
                  try dsimp only
                  refine ⟨by omega, ?_, hI.cut_ hg.inc hx (by simpa using hc38) (by omega) hhd⟩
                  rw [List.length_tail, ← List.drop_one]; exact hsr.dropL (lo := 1) (by omega)) (by
                  try dsimp only
                  omega) 
            · -- c65.f
              have hkk : ((keep x (p.2.data.length - p.2.syn) : Nat) : Int) = x.tmod (((p.2.data.length - p.2.syn : Nat) : Int) + 1) := by rw [hks.1, if_neg hc65]
              have hkl2 := hks.2
              refine w_skip ?_
              refine st_tn ?_
              refine w_seq ?_
              refine w_region ?_
              refine wl_det rfl rfl rfl (op_fieldAddr (off := 1) rfl tF93_1e) ?_
              refine wl_det rfl rfl rfl (op_load1 rfl tO3e (Ent.lab (l := 6) rfl (says_cel 1))) ?_
              refine wl_det rfl rfl rfl (op_move rfl) ?_
              refine wl_det rfl rfl rfl (op_val (v' := .int .i64 ((p.2.syn + keep x (p.2.data.length - p.2.syn) : Nat) : Int)) (by congr 1; omega) (op_add' rfl rfl (by omega))) ?_
              refine wl_det rfl rfl rfl (op_fieldAddr (off := 1) rfl tF93_1e) ?_
              refine wl_op0 [6] rfl rfl rfl (op_store rfl rfl tZ3e (by rfl) (by rfl) (by exact Nat.le_of_ble_eq_true rfl)) ?_
              rintro _ _ ⟨rfl, rfl⟩
              refine wl_nil ?_
              refine st_tn ?_
              refine w_seq ?_
              refine w_region ?_
              refine wl_det rfl rfl rfl (op_fieldAddr (off := 0) rfl tF93_0e) ?_
              refine wl_det rfl rfl rfl (op_load1 rfl tO9e (Ent.lab (l := 6) rfl (says_cel 0))) ?_
              refine wl_det rfl rfl rfl (op_fieldAddr (off := 1) rfl tF93_1e) ?_
              refine wl_det rfl rfl rfl (op_load1 rfl tO3e (Ent.lab (l := 6) rfl (says_cel 1))) ?_
              refine wl_det rfl rfl rfl (op_sliceRBs rfl rfl Try.underlying9 (by omega)) ?_
              refine wl_det rfl rfl rfl (op_fieldAddr (off := 0) rfl tF93_0e) ?_
              refine wl_op0 [6] rfl rfl rfl (op_store rfl rfl tZ9e (by rfl) (by rfl) (by exact Nat.le_of_ble_eq_true rfl)) ?_
              rintro _ _ ⟨rfl, rfl⟩
              refine wl_nil ?_
              refine st_tn ?_
              refine w_drawW (fun β => [⟨81, [], [], [], noW (_), false, [], []⟩, ⟨82, [0], [], [], noW (_), false, [], []⟩, ⟨83, [1], [], [], noW (_), false, [], []⟩, ⟨84, [2], [], [], noW (_), false, [], []⟩, ⟨85, [], [], [], noW (_), false, [], []⟩, ⟨86, [], [], [], noW (_), false, [], []⟩]) [] [0, 5, 6] [⟨81, [], [], false, [], []⟩, ⟨82, [0], [], false, [], []⟩, ⟨83, [1], [], false, [], []⟩, ⟨84, [2], [], false, [], []⟩, ⟨85, [], [], false, [], []⟩, ⟨86, [], [], false, [], []⟩] [[], [], [], [], [], []] [[], [], [], [], [], []] tMixe (fun _ => by rfl) (fun _ => by rfl) (by kernel_rfl) (by kernel_rfl) (by rfl) (by rfl)
                  (fun β => ⟨.p rfl (by intro X; exact op_move rfl),
                  ⟨.p rfl (by intro X; rintro _ _ ⟨rfl, rfl⟩; exact op_nilCheck rfl),
                  ⟨.p rfl (by intro X; rintro _ _ ⟨rfl, rfl⟩; exact op_fieldAddr (off := 1) rfl tF90_1e),
                  ⟨.p rfl (by intro X; rintro _ _ ⟨rfl, rfl⟩; exact op_load1 rfl tO88e (Ent.lab (l := 601) rfl (says_cel 1))),
                  ⟨.p rfl (by intro X; exact op_move rfl),
                  ⟨.p rfl (by intro X; exact op_loadA rfl tA93e (Ent.lab (l := 6) rfl (says_cel 0)) (Nat.le_of_ble_eq_true rfl)),
                  trivial⟩⟩⟩⟩⟩⟩)
                  (fun β β' => ⟨fun _ => by rfl, ⟨fun _ => by rfl, ⟨fun _ => by rfl, ⟨fun _ => by rfl, ⟨fun _ => by rfl, ⟨fun _ => by rfl, trivial⟩⟩⟩⟩⟩⟩) ?_
              intro β
              rintro _ _ ⟨rfl, rfl⟩ _ _ ⟨rfl, rfl⟩ _ _ ⟨rfl, rfl⟩ _ _ ⟨rfl, rfl⟩ _ _ ⟨rfl, rfl⟩ _ _ ⟨rfl, rfl⟩
              refine wl_norm (e' := [(0, _), (1, _), (24, _), (25, _), (26, _), (84, _), (85, _), (86, _)]) (.cons rfl (.cons rfl (.cons rfl (.cons rfl (.cons rfl (.cons rfl (.cons rfl (.cons rfl (.nil _))))))))) (by dsimp only [cond_false, cond_true, List.nil_append, List.cons_append]) ?_
              refine wl_op0 [602] rfl rfl rfl (op_mapUpdate (kt := KL) (encV := encF) (lab := 602) (v := cut p.2 x) rfl rfl rfl tQ88e) ?_
              rintro _ _ ⟨rfl, rfl⟩
              refine wl_nil ?_
              refine st_bn ?_
              refine st_tn ?_
              refine w_region ?_
              refine wl_det rfl rfl rfl (op_add' rfl rfl (by omega)) ?_
              refine wl_det rfl rfl rfl (op_move rfl) ?_
              refine wl_nil ?_
              refine st_roundQ (x := (r, a_r, c_r, i, D)) ((r.tail, _, _, i + 1, setK KL D p.1 (cut p.2 x))) [602, 601, 23, 24] rfl (rfl) (.cons rfl (.cons rfl (.nil _))) (.cons rfl (.cons rfl (.cons rfl (.nil _)))) (by
                  try dsimp only
                  refine ⟨by omega, ?_, hI.cut_ hg.inc hx (by simpa using hc38) (by omega) hhd⟩
                  rw [List.length_tail, ← List.drop_one]; exact hsr.dropL (lo := 1) (by omega)) (by
                  try dsimp only
                  omega) 
          · -- c54.f
            obtain ⟨x, hx0⟩ : ∃ x : Int, x = 0 := ⟨0, rfl⟩
            have hrn : r = [] := List.eq_nil_of_length_eq_zero (by omega)
            have hhd : r.head?.getD 0 = x := by rw [hrn, hx0]; rfl
            have hks := keep_spec x (p.2.data.length - p.2.syn)
            refine w_skip ?_
            refine st_tn ?_
            refine w_seq ?_
            refine w_region ?_
            refine wl_det rfl rfl rfl (op_move rfl) ?_
            refine wl_det rfl rfl rfl (op_move rfl) ?_
            refine wl_det rfl rfl rfl (op_add' rfl rfl (by omega)) ?_
            refine wl_det rfl rfl rfl (op_val (v' := .int .i64 (x.tmod (((p.2.data.length - p.2.syn : Nat) : Int) + 1))) (by rw [hx0]) (op_rem rfl rfl (by omega))) ?_
            refine wl_det rfl rfl rfl (op_assign rfl) ?_
            refine wl_nil ?_
            refine st_tn ?_
            refine w_seq ?_
            refine w_seq ?_
            refine w_region ?_
            refine wl_det rfl rfl rfl (op_move rfl) ?_
            refine wl_det rfl rfl rfl (op_lss rfl rfl) ?_
            refine wl_nil ?_
            refine st_tn ?_
            refine w_cond_d rfl (fun hc65 => ?_) (fun hc65 => ?_)
            · -- c65.t
              have hkk : ((keep x (p.2.data.length - p.2.syn) : Nat) : Int) = x.tmod (((p.2.data.length - p.2.syn : Nat) : Int) + 1) + (((p.2.data.length - p.2.syn : Nat) : Int) + 1) := by rw [hks.1, if_pos hc65]
              have hkl2 := hks.2
              refine w_region ?_
              refine wl_det rfl rfl rfl (op_move rfl) ?_
              refine wl_det rfl rfl rfl (op_move rfl) ?_
              refine wl_det rfl rfl rfl (op_add' rfl rfl (by omega)) ?_
              refine wl_det rfl rfl rfl (op_add' rfl rfl (by omega)) ?_
              refine wl_det rfl rfl rfl (op_assign rfl) ?_
              refine wl_nil ?_
              refine st_tn ?_
              refine w_seq ?_
              refine w_region ?_
              refine wl_det rfl rfl rfl (op_fieldAddr (off := 1) rfl tF93_1e) ?_
              refine wl_det rfl rfl rfl (op_load1 rfl tO3e (Ent.lab (l := 6) rfl (says_cel 1))) ?_
              refine wl_det rfl rfl rfl (op_move rfl) ?_
              refine wl_det rfl rfl rfl (op_val (v' := .int .i64 ((p.2.syn + keep x (p.2.data.length - p.2.syn) : Nat) : Int)) (by congr 1; omega) (op_add' rfl rfl (by omega))) ?_
              refine wl_det rfl rfl rfl (op_fieldAddr (off := 1) rfl tF93_1e) ?_
              refine wl_op0 [6] rfl rfl rfl (op_store rfl rfl tZ3e (by rfl) (by rfl) (by exact Nat.le_of_ble_eq_true rfl)) ?_
              rintro _ _ ⟨rfl, rfl⟩
              refine wl_nil ?_
              refine st_tn ?_
              refine w_seq ?_
              refine w_region ?_
              refine wl_det rfl rfl rfl (op_fieldAddr (off := 0) rfl tF93_0e) ?_
              refine wl_det rfl rfl rfl (op_load1 rfl tO9e (Ent.lab (l := 6) rfl (says_cel 0))) ?_
              refine wl_det rfl rfl rfl (op_fieldAddr (off := 1) rfl tF93_1e) ?_
              refine wl_det rfl rfl rfl (op_load1 rfl tO3e (Ent.lab (l := 6) rfl (says_cel 1))) ?_
              refine wl_det rfl rfl rfl (op_sliceRBs rfl rfl Try.underlying9 (by omega)) ?_
              refine wl_det rfl rfl rfl (op_fieldAddr (off := 0) rfl tF93_0e) ?_
              refine wl_op0 [6] rfl rfl rfl (op_store rfl rfl tZ9e (by rfl) (by rfl) (by exact Nat.le_of_ble_eq_true rfl)) ?_
              rintro _ _ ⟨rfl, rfl⟩
              refine wl_nil ?_
              refine st_tn ?_
              refine w_drawW (fun β => [⟨81, [], [], [], noW (_), false, [], []⟩, ⟨82, [0], [], [], noW (_), false, [], []⟩, ⟨83, [1], [], [], noW (_), false, [], []⟩, ⟨84, [2], [], [], noW (_), false, [], []⟩, ⟨85, [], [], [], noW (_), false, [], []⟩, ⟨86, [], [], [], noW (_), false, [], []⟩]) [] [0, 5, 6] [⟨81, [], [], false, [], []⟩, ⟨82, [0], [], false, [], []⟩, ⟨83, [1], [], false, [], []⟩, ⟨84, [2], [], false, [], []⟩, ⟨85, [], [], false, [], []⟩, ⟨86, [], [], false, [], []⟩] [[], [], [], [], [], []] [[], [], [], [], [], []] tMixe (fun _ => by rfl) (fun _ => by rfl) (by kernel_rfl) (by kernel_rfl) (by rfl) (by rfl)
                  (fun β => ⟨.p rfl (by intro X; exact op_move rfl),
                  ⟨.p rfl (by intro X; rintro _ _ ⟨rfl, rfl⟩; exact op_nilCheck rfl),
                  ⟨.p rfl (by intro X; rintro _ _ ⟨rfl, rfl⟩; exact op_fieldAddr (off := 1) rfl tF90_1e),
                  ⟨.p rfl (by intro X; rintro _ _ ⟨rfl, rfl⟩; exact op_load1 rfl tO88e (Ent.lab (l := 601) rfl (says_cel 1))),
                  ⟨.p rfl (by intro X; exact op_move rfl),
                  ⟨.p rfl (by intro X; exact op_loadA rfl tA93e (Ent.lab (l := 6) rfl (says_cel 0)) (Nat.le_of_ble_eq_true rfl)),
                  trivial⟩⟩⟩⟩⟩⟩)
                  (fun β β' => ⟨fun _ => by rfl, ⟨fun _ => by rfl, ⟨fun _ => by rfl, ⟨fun _ => by rfl, ⟨fun _ => by rfl, ⟨fun _ => by rfl, trivial⟩⟩⟩⟩⟩⟩) ?_
              intro β
              rintro _ _ ⟨rfl, rfl⟩ _ _ ⟨rfl, rfl⟩ _ _ ⟨rfl, rfl⟩ _ _ ⟨rfl, rfl⟩ _ _ ⟨rfl, rfl⟩ _ _ ⟨rfl, rfl⟩
              refine wl_norm (e' := [(0, _), (1, _), (24, _), (25, _), (26, _), (84, _), (85, _), (86, _)]) (.cons rfl (.cons rfl (.cons rfl (.cons rfl (.cons rfl (.cons rfl (.cons rfl (.cons rfl (.nil _))))))))) (by dsimp only [cond_false, cond_true, List.nil_append, List.cons_append]) ?_
              refine wl_op0 [602] rfl rfl rfl (op_mapUpdate (kt := KL) (encV := encF) (lab := 602) (v := cut p.2 x) rfl rfl rfl tQ88e) ?_
              rintro _ _ ⟨rfl, rfl⟩
              refine wl_nil ?_
              refine st_bn ?_
              refine st_tn ?_
              refine w_region ?_
              refine wl_det rfl rfl rfl (op_add' rfl rfl (by omega)) ?_
              refine wl_det rfl rfl rfl (op_move rfl) ?_
              refine wl_nil ?_
              refine st_roundQ (x := (r, a_r, c_r, i, D)) ((r, _, _, i + 1, setK KL D p.1 (cut p.2 x))) [602, 601, 23, 24] rfl (rfl) (.cons rfl (.cons rfl (.nil _))) (.cons rfl (.cons rfl (.cons rfl (.nil _)))) (by
                  try dsimp only
                  refine ⟨by omega, hsr, ?_⟩
                  have := hI.cut_ hg.inc hx (by simpa using hc38) (by omega) hhd
                  rwa [hrn] at this ⊢) (by
                  try dsimp only
                  omega) 
            · -- c65.f
              have hkk : ((keep x (p.2.data.length - p.2.syn) : Nat) : Int) = x.tmod (((p.2.data.length - p.2.syn : Nat) : Int) + 1) := by rw [hks.1, if_neg hc65]
              have hkl2 := hks.2
              refine w_skip ?_
              refine st_tn ?_
              refine w_seq ?_
              refine w_region ?_
              refine wl_det rfl rfl rfl (op_fieldAddr (off := 1) rfl tF93_1e) ?_
              refine wl_det rfl rfl rfl (op_load1 rfl tO3e (Ent.lab (l := 6) rfl (says_cel 1))) ?_
              refine wl_det rfl rfl rfl (op_move rfl) ?_
              refine wl_det rfl rfl rfl (op_val (v' := .int .i64 ((p.2.syn + keep x (p.2.data.length - p.2.syn) : Nat) : Int)) (by congr 1; omega) (op_add' rfl rfl (by omega))) ?_
              refine wl_det rfl rfl rfl (op_fieldAddr (off := 1) rfl tF93_1e) ?_
              refine wl_op0 [6] rfl rfl rfl (op_store rfl rfl tZ3e (by rfl) (by rfl) (by exact Nat.le_of_ble_eq_true rfl)) ?_
              rintro _ _ ⟨rfl, rfl⟩
              refine wl_nil ?_
              refine st_tn ?_
              refine w_seq ?_
              refine w_region ?_
              refine wl_det rfl rfl rfl (op_fieldAddr (off := 0) rfl tF93_0e) ?_
              refine wl_det rfl rfl rfl (op_load1 rfl tO9e (Ent.lab (l := 6) rfl (says_cel 0))) ?_
              refine wl_det rfl rfl rfl (op_fieldAddr (off := 1) rfl tF93_1e) ?_
              refine wl_det rfl rfl rfl (op_load1 rfl tO3e (Ent.lab (l := 6) rfl (says_cel 1))) ?_
              refine wl_det rfl rfl rfl (op_sliceRBs rfl rfl Try.underlying9 (by omega)) ?_
              refine wl_det rfl rfl rfl (op_fieldAddr (off := 0) rfl tF93_0e) ?_
              refine wl_op0 [6] rfl rfl rfl (op_store rfl rfl tZ9e (by rfl) (by rfl) (by exact Nat.le_of_ble_eq_true rfl)) ?_
              rintro _ _ ⟨rfl, rfl⟩
              refine wl_nil ?_
              refine st_tn ?_
              refine w_drawW (fun β => [⟨81, [], [], [], noW (_), false, [], []⟩, ⟨82, [0], [], [], noW (_), false, [], []⟩, ⟨83, [1], [], [], noW (_), false, [], []⟩, ⟨84, [2], [], [], noW (_), false, [], []⟩, ⟨85, [], [], [], noW (_), false, [], []⟩, ⟨86, [], [], [], noW (_), false, [], []⟩]) [] [0, 5, 6] [⟨81, [], [], false, [], []⟩, ⟨82, [0], [], false, [], []⟩, ⟨83, [1], [], false, [], []⟩, ⟨84, [2], [], false, [], []⟩, ⟨85, [], [], false, [], []⟩, ⟨86, [], [], false, [], []⟩] [[], [], [], [], [], []] [[], [], [], [], [], []] tMixe (fun _ => by rfl) (fun _ => by rfl) (by kernel_rfl) (by kernel_rfl) (by rfl) (by rfl)
                  (fun β => ⟨.p rfl (by intro X; exact op_move rfl),
                  ⟨.p rfl (by intro X; rintro _ _ ⟨rfl, rfl⟩; exact op_nilCheck rfl),
                  ⟨.p rfl (by intro X; rintro _ _ ⟨rfl, rfl⟩; exact op_fieldAddr (off := 1) rfl tF90_1e),
                  ⟨.p rfl (by intro X; rintro _ _ ⟨rfl, rfl⟩; exact op_load1 rfl tO88e (Ent.lab (l := 601) rfl (says_cel 1))),
                  ⟨.p rfl (by intro X; exact op_move rfl),
                  ⟨.p rfl (by intro X; exact op_loadA rfl tA93e (Ent.lab (l := 6) rfl (says_cel 0)) (Nat.le_of_ble_eq_true rfl)),
                  trivial⟩⟩⟩⟩⟩⟩)
                  (fun β β' => ⟨fun _ => by rfl, ⟨fun _ => by rfl, ⟨fun _ => by rfl, ⟨fun _ => by rfl, ⟨fun _ => by rfl, ⟨fun _ => by rfl, trivial⟩⟩⟩⟩⟩⟩) ?_
              intro β
              rintro _ _ ⟨rfl, rfl⟩ _ _ ⟨rfl, rfl⟩ _ _ ⟨rfl, rfl⟩ _ _ ⟨rfl, rfl⟩ _ _ ⟨rfl, rfl⟩ _ _ ⟨rfl, rfl⟩
              refine wl_norm (e' := [(0, _), (1, _), (24, _), (25, _), (26, _), (84, _), (85, _), (86, _)]) (.cons rfl (.cons rfl (.cons rfl (.cons rfl (.cons rfl (.cons rfl (.cons rfl (.cons rfl (.nil _))))))))) (by dsimp only [cond_false, cond_true, List.nil_append, List.cons_append]) ?_
              refine wl_op0 [602] rfl rfl rfl (op_mapUpdate (kt := KL) (encV := encF) (lab := 602) (v := cut p.2 x) rfl rfl rfl tQ88e) ?_
              rintro _ _ ⟨rfl, rfl⟩
              refine wl_nil ?_
              refine st_bn ?_
              refine st_tn ?_
              refine w_region ?_
              refine wl_det rfl rfl rfl (op_add' rfl rfl (by omega)) ?_
              refine wl_det rfl rfl rfl (op_move rfl) ?_
              refine wl_nil ?_
              refine st_roundQ (x := (r, a_r, c_r, i, D)) ((r, _, _, i + 1, setK KL D p.1 (cut p.2 x))) [602, 601, 23, 24] rfl (rfl) (.cons rfl (.cons rfl (.nil _))) (.cons rfl (.cons rfl (.cons rfl (.nil _)))) (by
                  try dsimp only
                  refine ⟨by omega, hsr, ?_⟩
                  have := hI.cut_ hg.inc hx (by simpa using hc38) (by omega) hhd
                  rwa [hrn] at this ⊢) (by
                  try dsimp only
                  omega) 
    · -- c27.f
      refine w_exit ?_
      refine st_te ?_
      refine st_te ?_
      refine st_be ?_
      refine st_tn ?_
      refine w_region ?_
      refine wl_det rfl rfl rfl (op_move rfl) ?_
      refine wl_det rfl rfl rfl (op_move rfl) ?_
      refine wl_det rfl rfl rfl (op_move rfl) ?_
      refine wl_det rfl rfl rfl (op_nilCheck rfl) ?_
      refine wl_det rfl rfl rfl (op_fieldAddr (off := 2) rfl tF90_2e) ?_
      refine wl_op0 [601] rfl rfl rfl (op_store rfl rfl tZ4e (by rfl) (by rfl) (by exact Nat.le_of_ble_eq_true rfl)) ?_
      rintro _ _ ⟨rfl, rfl⟩
      refine wl_det rfl rfl rfl (op_nilCheck rfl) ?_
      refine wl_det rfl rfl rfl (op_fieldAddr (off := 3) rfl tF90_3e) ?_
      refine wl_op0 [601] rfl rfl rfl (op_store rfl rfl tZ4e (by rfl) (by rfl) (by exact Nat.le_of_ble_eq_true rfl)) ?_
      rintro _ _ ⟨rfl, rfl⟩
      refine wl_det rfl rfl rfl (op_nilCheck rfl) ?_
      refine wl_det rfl rfl rfl (op_fieldAddr (off := 4) rfl tF90_4e) ?_
      refine wl_op0 [601] rfl rfl rfl (op_store rfl rfl tZ3e (by rfl) (by rfl) (by exact Nat.le_of_ble_eq_true rfl)) ?_
      rintro _ _ ⟨rfl, rfl⟩
      refine wl_nil ?_
      refine st_end (vs := []) [601, 602] Try.results38 trivial rfl ?_
      refine ⟨[(601, _), (602, _)], rfl, ?_⟩
      rw [sta_down hdn]; exact ⟨_, hI.fin (by omega), rfl, rfl⟩

end Go.Proofs.Ytcbigmgakdanjaa
namespace Go.Proofs.Ytcbigmgakdanjaa
open Go Go.SL Go.RowKit Go.DskM
set_option linter.unusedVariables false
set_option linter.unusedSimpArgs false
theorem tA90f : aggB Try.prog 90 5 = true := by kernel_rfl
theorem tA93f : aggB Try.prog 93 3 = true := by kernel_rfl
theorem tB90f : placesB Try.prog 90 = some ([(0, 1), (1, 1), (2, 1), (3, 1), (4, 1)], [Value.int .i64 0, Value.map none, Value.bool false, Value.bool false, Value.int .i64 0]) := by kernel_rfl
theorem tF90_0f : fieldB Try.prog 90 0 0 = true := by kernel_rfl
theorem tF90_1f : fieldB Try.prog 90 1 1 = true := by kernel_rfl
theorem tF90_2f : fieldB Try.prog 90 2 2 = true := by kernel_rfl
theorem tF90_3f : fieldB Try.prog 90 3 3 = true := by kernel_rfl
theorem tF90_4f : fieldB Try.prog 90 4 4 = true := by kernel_rfl
theorem tMixf : Try.prog.follows .mixedOrders = true := by kernel_rfl
theorem tN90f : (Try.prog.info? 90).bind (·.zero) = some (Value.agg #[Value.int .i64 0, Value.map none, Value.bool false, Value.bool false, Value.int .i64 0]) := by kernel_rfl
theorem tN93f : (Try.prog.info? 93).bind (·.zero) = some (Value.agg #[Value.string .empty, Value.int .i64 0, Value.bool false]) := by kernel_rfl
theorem tO3f : oneB Try.prog 3 = true := by kernel_rfl
theorem tO4f : oneB Try.prog 4 = true := by kernel_rfl
theorem tO88f : oneB Try.prog 88 = true := by kernel_rfl
theorem tQ88f : mapB Try.prog 88 9 93 KL.desc := ⟨Try.underlying88, Try.underlying9⟩
theorem tZ88f : (Try.prog.info? 88).map (·.size) = some 1 := by kernel_rfl
theorem tZ90f : (Try.prog.info? 90).map (·.size) = some 5 := by kernel_rfl
theorem tZ93f : (Try.prog.info? 93).map (·.size) = some 3 := by kernel_rfl

theorem str_beq (a b : Bs) : ((str a).toList == (str b).toList) = decide (a = b) := by
  rw [str_toList, str_toList]; by_cases h : a = b <;> simp [h]
theorem g93 : Try.prog.eqGuardType Try.prog.depth 93 = false := by kernel_rfl
set_option maxRecDepth 100000 in
theorem eq_file (f g : Fl) (w : World) : (Op.equal 93 (encF f) (encF g)).run Try.prog w = .ok (decide (f = g)) w := by
  have hs : Try.prog.stoodInHeld 93 = false := by kernel_rfl
  have hf : (Try.prog.fieldsOf 93).toList.map (fun f => (f.name, f.type, f.offset)) = [("data", 9, 0), ("synced", 3, 1), ("durable", 4, 2)] := by kernel_rfl
  have ha9 : ∀ w, (isAgg 9).run Try.prog w = .ok false w := fun w => by unfold isAgg; rw [Sem.run_bind, run_underlying Try.underlying9 w]; rfl
  have ha3 : ∀ w, (isAgg 3).run Try.prog w = .ok false w := fun w => by unfold isAgg; rw [Sem.run_bind, run_underlying Try.underlying3 w]; rfl
  have ha4 : ∀ w, (isAgg 4).run Try.prog w = .ok false w := fun w => by unfold isAgg; rw [Sem.run_bind, run_underlying Try.underlying4 w]; rfl
  obtain ⟨l, hl⟩ : ∃ l, Try.prog.fieldsOf 93 = l := ⟨_, rfl⟩
  unfold encF
  show (Op.equalIn (9999 + 1) 93 (.agg _) (.agg _)).run Try.prog w = _
  rw [run_equalIn_agg w 9999 93 _ _ (by kernel_rfl) hs]
  rw [hl] at hf ⊢
  obtain ⟨ll⟩ := l
  simp only at hf ⊢
  match ll, hf with
  | [x, y, z], hf =>
    simp only [List.map_cons, List.map_nil, List.cons.injEq, Prod.mk.injEq, and_true] at hf
    obtain ⟨⟨f1, f2, f3⟩, ⟨g1, g2, g3⟩, i1, i2, i3⟩ := hf
    obtain ⟨a, b, c⟩ := f
    obtain ⟨a', b', c'⟩ := g
    by_cases h1 : a = a' <;> by_cases h2 : b = b' <;> by_cases h3 : c = c' <;> simp [h1, h2, h3, part, Sem.run_bind, ha9, ha3, ha4, run_equalIn_int w 9998 3 .i64 .i64 _ _ Try.underlying3, run_equalIn_string w 9998 9 _ _ Try.underlying9, run_equalIn_bool' w 9998 4 _ _ Try.underlying4, str_beq, Op.eqFields, f1, f2, f3, g1, g2, g3, i1, i2, i3] <;> omega
theorem sub_tail {x y : Bs × Fl} {a b : Files} (ha : DskM.Inc (x :: a)) (hb : DskM.Inc (y :: b)) (h : ∀ p ∈ x :: a, p ∈ y :: b) : ∀ p ∈ a, p ∈ b := fun p hp => by
  obtain ⟨a1, _⟩ := List.pairwise_cons.1 ha
  obtain ⟨b1, _⟩ := List.pairwise_cons.1 hb
  rcases List.mem_cons.1 (h p (List.mem_cons_of_mem _ hp)) with h1 | h1
  · exfalso
    rcases List.mem_cons.1 (h x List.mem_cons_self) with h2 | h2
    · have := a1 p hp; rw [h1, ← h2] at this; exact lt_irrefl _ this
    · have h3 := b1 x h2; have h4 := a1 p hp; rw [h1] at h4; exact lt_asymm h3 h4
  · exact h1
theorem sub_len : ∀ {a b : Files}, DskM.Inc a → DskM.Inc b → (∀ p ∈ a, p ∈ b) → a.length ≤ b.length
  | [], _, _, _, _ => Nat.zero_le _
  | x :: a, [], _, _, h => by have := h x List.mem_cons_self; simp at this
  | x :: a, y :: b, ha, hb, h => by
    have := sub_len (List.pairwise_cons.1 ha).2 (List.pairwise_cons.1 hb).2 (sub_tail ha hb h)
    simp only [List.length_cons]; omega
theorem sub_eq : ∀ {a b : Files}, DskM.Inc a → DskM.Inc b → (∀ p ∈ a, p ∈ b) → b.length ≤ a.length → a = b
  | [], [], _, _, _, _ => rfl
  | [], y :: b, _, _, _, h => by simp at h
  | x :: a, [], _, _, h, _ => by have := h x List.mem_cons_self; simp at this
  | x :: a, y :: b, ha, hb, h, hl => by
    have h1 := sub_eq (List.pairwise_cons.1 ha).2 (List.pairwise_cons.1 hb).2 (sub_tail ha hb h) (by simpa using hl)
    rcases List.mem_cons.1 (h x List.mem_cons_self) with h2 | h2
    · rw [h1, h2]
    · exfalso
      have h3 : ∀ p ∈ x :: a, p ∈ b := fun p hp => by
        rcases List.mem_cons.1 hp with rfl | hp
        · exact h2
        · exact sub_tail ha hb h p hp
      have h4 := sub_len ha (List.pairwise_cons.1 hb).2 h3
      rw [h1] at h4; simp only [List.length_cons] at h4; omega
theorem mclone_any {σ : World} {F : List Res} {m : Nat} {l : Files} (lab : Nat) (hm' : Mr σ F KL encF (.map (some m)) l) :
    FnT Try.prog σ F 54 [.map (some m)] [] (fun u ρ => ∃ mm, u = .map (some mm) ∧ ρ = [(lab, mp KL encF mm l)]) := by
  intro w ho
  have ho' : SL.Own σ F w := ho
  rcases hm' w ho' with ⟨h1, _⟩ | ⟨b2, bs, ck, h1, h2, h3⟩
  · cases h1
  · cases h1
    refine (AnyW.maps_Clone Try.clone54 m _ ck w h2).mono ?_
    rintro e W' ⟨rfl, rfl⟩
    exact ⟨_, _, rfl, ⟨_, rfl, rfl⟩, ho'.alloc ⟨bs, ck, rfl, h3⟩⟩
set_option maxHeartbeats 1000000 in
set_option maxRecDepth 100000 in
theorem mequal_any {σ : World} {F : List Res} {m1 m2 : Nat} {l1 l2 fs1 fs2 : Files} {bs : List Nat} {ck : Nat} (hp1 : l1.Perm fs1) (hp2 : l2.Perm fs2) (hi1 : DskM.Inc fs1) (hi2 : DskM.Inc fs2) (hm : Me σ F KL encF m1 l1 bs ck) (hm2' : Mr σ F KL encF (.map (some m2)) l2) :
    FnT Try.prog σ F 55 [.map (some m1), .map (some m2)] [] (fun u ρ => u = .bool (decide (fs1 = fs2)) ∧ ρ = []) := by
  refine fn_of 34 Try.func55 rfl Try.ntmps55 rfl ?_
  have hn1 : (l1.map Prod.fst).Nodup := (hp1.map Prod.fst).nodup_iff.2 hi1.nod
  have hn2 : (l2.map Prod.fst).Nodup := (hp2.map Prod.fst).nodup_iff.2 hi2.nod
  have e1 := hp1.length_eq
  have e2 := hp2.length_eq
  refine w_seq ?_
  refine w_region ?_
  refine wl_det rfl rfl rfl (op_assign rfl) ?_
  refine wl_nil ?_
  refine st_tn ?_
  refine w_seq ?_
  refine w_seq ?_
  refine w_region ?_
  refine wl_det rfl rfl rfl (op_move rfl) ?_
  refine wl_det rfl rfl rfl (op_lenM (kt := KL) (encV := encF) rfl tQ88f (Mr.ofMe (Ent.app hm _))) ?_
  refine wl_det rfl rfl rfl (op_move rfl) ?_
  refine wl_det rfl rfl rfl (op_lenM (kt := KL) (encV := encF) rfl tQ88f (Ent.app hm2' _)) ?_
  refine wl_det rfl rfl rfl (op_neq rfl rfl) ?_
  refine wl_nil ?_
  refine st_tn ?_
  refine w_cond_d rfl (fun hc13 => ?_) (fun hc13 => ?_)
  · -- c13.t
    refine w_seq ?_
    refine w_region ?_
    refine wl_det rfl rfl rfl (op_assign rfl) ?_
    refine wl_nil ?_
    refine st_tn ?_
    refine w_ret ?_
    refine st_tr ?_
    refine st_ret (vs := [_]) [] Try.results55 ⟨rfl, trivial⟩ rfl ?_
    refine ⟨_, rfl, ?_⟩
    have : fs1 ≠ fs2 := fun e => by rw [e] at e1; omega
    exact ⟨by simp [retv, this], rfl⟩
  · -- c13.f
    refine w_skip ?_
    refine st_tn ?_
    refine w_seq ?_
    refine w_seq ?_
    refine w_region ?_
    refine wl_det rfl rfl rfl (op_move rfl) ?_
    refine wl_op [] rfl rfl rfl rfl (op_range (kt := KL) (encV := encF) (lab := 15) rfl tQ88f (Ent.app hm _)) ?_
    rintro _ _ ⟨r15, rfl, rfl⟩
    refine wl_nil ?_
    refine st_tn ?_
    refine w_block ?_
    refine w_loopQ (X := List (Bs × Fl) × List (Bs × Fl)) (fun z => (z.1 ++ z.2).Perm l1 ∧ ∀ p ∈ z.1, find fs2 p.1 = some p.2) (fun z => []) (fun z => [(15, itR r15 m1 l1 bs ck (z.1) (z.2))]) (fun z => z.2.length) (([], l1)) [(1, _), (15, _)] [] [15] rfl (rfl) (.nil _) (.cons rfl (.cons rfl (.nil _))) (by
        try dsimp only
        exact ⟨List.Perm.refl _, by simp⟩) ?_
    rintro ⟨dn_it, td_it⟩ ⟨hperm, hn⟩
    refine w_norm2 (by dsimp only [List.cons_append, List.nil_append]) (by dsimp only [List.cons_append, List.nil_append]) ?_
    try dsimp only at hperm hn ⊢
    refine w_seq ?_
    refine w_region ?_
    refine wl_op [15] rfl rfl rfl rfl (op_next (kt := KL) (encV := encF) (lab := 15) rfl (Ent.app hm _)) ?_
    rintro _ _ ⟨o16, dn16, td16, rfl, rfl, hn16⟩
    refine wl_det rfl rfl rfl (op_nextOk rfl) ?_
    refine wl_nil ?_
    refine st_tn ?_
    refine w_seq ?_
    refine w_cond rfl (fun hc17 => ?_) (fun hc17 => ?_)
    · -- c17.t
      obtain ⟨p, hpe⟩ := Option.isSome_iff_exists.1 hc17
      subst hpe
      obtain ⟨hdn16, hpt⟩ : dn16 = p :: dn_it ∧ td_it.Perm (p :: td16) := hn16
      subst hdn16
      have hlk := look_perm hp2 hn2 p.1
      have hpm : p ∈ fs1 := hp1.mem_iff.1 (hperm.mem_iff.1 (List.mem_append_right _ (hpt.mem_iff.2 List.mem_cons_self)))
      refine w_skip ?_
      refine st_tn ?_
      refine w_block ?_
      refine w_seq ?_
      refine w_region ?_
      refine wl_det rfl rfl rfl (op_entry (kt := KL) (encV := encF) rfl (Ent.app hm _) (It.lab 15 rfl)) ?_
      refine wl_det rfl rfl rfl (op_extract rfl rfl) ?_
      refine wl_det rfl rfl rfl (op_extract rfl rfl) ?_
      refine wl_op [] rfl rfl rfl rfl (op_alloc (l := 6) tN93f) ?_
      rintro _ _ ⟨b6, rfl, rfl⟩
      refine wl_det rfl rfl rfl (op_assign rfl) ?_
      refine wl_op0 [6] rfl rfl rfl (op_store rfl rfl tZ93f (by rfl) (by rfl) (by exact Nat.le_of_ble_eq_true rfl)) ?_
      rintro _ _ ⟨rfl, rfl⟩
      refine wl_nil ?_
      refine st_tn ?_
      refine w_seq ?_
      by_cases hf : (find fs2 p.1).isSome = true
      · -- hf+
        obtain ⟨f, hff⟩ := Option.isSome_iff_exists.1 hf
        refine w_region ?_
        refine wl_det rfl rfl rfl (op_move rfl) ?_
        refine wl_det rfl rfl rfl (op_move rfl) ?_
        refine wl_det rfl rfl rfl (op_val (v' := .tuple #[encF f, .bool true]) (by rw [hlk, hff]; rfl) (op_lookup2 (kt := KL) (encV := encF) rfl rfl tQ88f tN93f (Ent.app hm2' _))) ?_
        refine wl_det rfl rfl rfl (op_move rfl) ?_
        refine wl_det rfl rfl rfl (op_extract rfl rfl) ?_
        refine wl_det rfl rfl rfl (op_extract rfl rfl) ?_
        refine wl_op [] rfl rfl rfl rfl (op_alloc (l := 7) tN93f) ?_
        rintro _ _ ⟨b7, rfl, rfl⟩
        refine wl_op0 [7] rfl rfl rfl (op_store rfl rfl tZ93f (by rfl) (by rfl) (by exact Nat.le_of_ble_eq_true rfl)) ?_
        rintro _ _ ⟨rfl, rfl⟩
        refine wl_det rfl rfl rfl (op_assign rfl) ?_
        refine wl_nil ?_
        refine st_tn ?_
        refine w_seq ?_
        refine w_region ?_
        refine wl_det rfl rfl rfl (op_move rfl) ?_
        refine wl_det rfl rfl rfl (op_not_t rfl) ?_
        refine wl_det rfl rfl rfl (op_move rfl) ?_
        refine wl_wanted_det rfl rfl rfl rfl rfl rfl rfl (op_loadA rfl tA93f (Ent.lab (l := 6) rfl (says_cel 0)) (Nat.le_of_ble_eq_true rfl)) ?_
        refine wl_wanted_det rfl rfl rfl rfl rfl rfl rfl (op_loadA rfl tA93f (Ent.lab (l := 7) rfl (says_cel 0)) (Nat.le_of_ble_eq_true rfl)) ?_
        refine wl_wanted_det rfl rfl rfl rfl rfl rfl rfl (op_neA rfl rfl g93 (eq_file p.2 f)) ?_
        refine wl_det rfl rfl rfl (op_pick_f rfl rfl) ?_
        refine wl_nil ?_
        refine st_tn ?_
        refine w_cond rfl (fun hc33 => ?_) (fun hc33 => ?_)
        · -- c33.t
          refine w_seq ?_
          refine w_region ?_
          refine wl_det rfl rfl rfl (op_assign rfl) ?_
          refine wl_nil ?_
          refine st_tn ?_
          refine w_ret ?_
          refine st_br ?_
          refine st_tr ?_
          refine st_br ?_
          refine st_tr ?_
          refine st_ret (vs := [_]) [] Try.results55 ⟨rfl, trivial⟩ rfl ?_
          refine ⟨_, rfl, ?_⟩
          have : fs1 ≠ fs2 := fun e => by
            rw [← e, find_of hi1 hpm] at hff
            have : ¬ p.2 = f := by simpa using hc33
            exact this (by simpa using hff)
          exact ⟨by simp [retv, this], rfl⟩
        · -- c33.f
          refine w_skip ?_
          refine st_bn ?_
          refine st_roundQ (x := (dn_it, td_it)) ((_, _)) [15] rfl (rfl) (.nil _) (.cons rfl (.cons rfl (.nil _))) (by
              try dsimp only
              refine ⟨perm_next hperm hpt, fun q hq => ?_⟩
              rcases List.mem_cons.1 hq with rfl | hq
              · have : q.2 = f := by simpa using hc33
                rw [hff, this]
              · exact hn q hq) (by
              try dsimp only
              have := hpt.length_eq; simp at this; omega) 
      · -- hf-
        have hff : find fs2 p.1 = none := by simpa using hf
        refine w_region ?_
        refine wl_det rfl rfl rfl (op_move rfl) ?_
        refine wl_det rfl rfl rfl (op_move rfl) ?_
        refine wl_det rfl rfl rfl (op_val (v' := .tuple #[encF zeroF, .bool false]) (by rw [hlk, hff]; rfl) (op_lookup2 (kt := KL) (encV := encF) rfl rfl tQ88f tN93f (Ent.app hm2' _))) ?_
        refine wl_det rfl rfl rfl (op_move rfl) ?_
        refine wl_det rfl rfl rfl (op_extract rfl rfl) ?_
        refine wl_det rfl rfl rfl (op_extract rfl rfl) ?_
        refine wl_op [] rfl rfl rfl rfl (op_alloc (l := 7) tN93f) ?_
        rintro _ _ ⟨b7, rfl, rfl⟩
        refine wl_op0 [7] rfl rfl rfl (op_store rfl rfl tZ93f (by rfl) (by rfl) (by exact Nat.le_of_ble_eq_true rfl)) ?_
        rintro _ _ ⟨rfl, rfl⟩
        refine wl_det rfl rfl rfl (op_assign rfl) ?_
        refine wl_nil ?_
        refine st_tn ?_
        refine w_seq ?_
        refine w_region ?_
        refine wl_det rfl rfl rfl (op_move rfl) ?_
        refine wl_det rfl rfl rfl (op_not_f rfl) ?_
        refine wl_det rfl rfl rfl (op_move rfl) ?_
        refine wl_unwanted rfl rfl rfl rfl rfl rfl rfl rfl ?_
        refine wl_unwanted rfl rfl rfl rfl rfl rfl rfl rfl ?_
        refine wl_unwanted rfl rfl rfl rfl rfl rfl rfl rfl ?_
        refine wl_det rfl rfl rfl (op_pick_t rfl rfl) ?_
        refine wl_nil ?_
        refine st_tn ?_
        refine w_cond_t (rfl) ?_
        refine w_seq ?_
        refine w_region ?_
        refine wl_det rfl rfl rfl (op_assign rfl) ?_
        refine wl_nil ?_
        refine st_tn ?_
        refine w_ret ?_
        refine st_br ?_
        refine st_tr ?_
        refine st_br ?_
        refine st_tr ?_
        refine st_ret (vs := [_]) [] Try.results55 ⟨rfl, trivial⟩ rfl ?_
        refine ⟨_, rfl, ?_⟩
        have : fs1 ≠ fs2 := fun e => by rw [← e, find_of hi1 hpm] at hff; simp at hff
        exact ⟨by simp [retv, this], rfl⟩
    · -- c17.f
      have ho : o16 = none := by simpa using hc17
      subst ho
      obtain ⟨htd, hdn16, htd16⟩ : td_it = [] ∧ dn16 = dn_it ∧ td16 = [] := hn16
      subst htd
      rw [List.append_nil] at hperm
      refine w_exit ?_
      refine st_te ?_
      refine st_te ?_
      refine st_be ?_
      refine st_tn ?_
      refine w_seq ?_
      refine w_region ?_
      refine wl_det rfl rfl rfl (op_assign rfl) ?_
      refine wl_nil ?_
      refine st_tn ?_
      refine w_ret ?_
      refine st_ret (vs := [_]) [] Try.results55 ⟨rfl, trivial⟩ rfl ?_
      refine ⟨_, rfl, ?_⟩
      have : fs1 = fs2 := sub_eq hi1 hi2 (fun p hp => find_mem (hn p (hperm.mem_iff.2 (hp1.mem_iff.2 hp)))) (by omega)
      exact ⟨by simp [retv, this], rfl⟩

theorem St.ext_iff' (s t : St) : s = t ↔ s.cap = t.cap ∧ s.down = t.down ∧ s.lim = t.lim ∧ s.left = t.left ∧ s.fs = t.fs := by
  constructor
  · rintro rfl; exact ⟨rfl, rfl, rfl, rfl, rfl⟩
  · obtain ⟨a, b, c, d, e⟩ := s
    obtain ⟨a', b', c', d', e'⟩ := t
    rintro ⟨h1, h2, h3, h4, h5⟩
    simp only at h1 h2 h3 h4 h5
    subst h1; subst h2; subst h3; subst h4; subst h5; rfl
theorem dec_st (s t : St) : decide (s = t) = decide (s.cap = t.cap ∧ s.down = t.down ∧ s.lim = t.lim ∧ s.left = t.left ∧ s.fs = t.fs) := decide_eq_decide.2 (St.ext_iff' s t)
set_option maxHeartbeats 2000000 in
set_option maxRecDepth 100000 in
theorem equal_any {σ : World} {F : List Res} {b1 m1 b2 m2 : Nat} {s t : St} {l1 l2 : Files} {bs : List Nat} {ck : Nat} (hg1 : DskM.Good s) (hg2 : DskM.Good t) (hp1 : l1.Perm s.fs) (hp2 : l2.Perm t.fs) (hd1 : Ent σ F (At ⟨b1, 0, none⟩ (cellD s m1))) (hd2 : Ent σ F (At ⟨b2, 0, none⟩ (cellD t m2))) (hm : Me σ F KL encF m1 l1 bs ck) (hm2' : Mr σ F KL encF (.map (some m2)) l2) :
    FnT Try.prog σ F 22 [.pointer (some ⟨b1, 0, none⟩), .pointer (some ⟨b2, 0, none⟩)] [] (fun u ρ => u = .bool (decide (s = t)) ∧ ρ = []) := by
  refine fn_of 67 Try.func22 rfl Try.ntmps22 rfl ?_
  refine w_seq ?_
  refine w_region ?_
  refine wl_det rfl rfl rfl (op_assign rfl) ?_
  refine wl_nil ?_
  refine st_tn ?_
  refine w_seq ?_
  refine w_seq ?_
  refine w_region ?_
  refine wl_det rfl rfl rfl (op_move rfl) ?_
  refine wl_det rfl rfl rfl (op_val (v' := .bool false) (by simp) (op_eqPtr rfl Try.underlying22)) ?_
  refine wl_det rfl rfl rfl (op_move rfl) ?_
  refine wl_wanted_det rfl rfl rfl rfl rfl rfl rfl (op_move rfl) ?_
  refine wl_wanted_det rfl rfl rfl rfl rfl rfl rfl (op_val (v' := .bool false) (by simp) (op_eqPtr rfl Try.underlying22)) ?_
  refine wl_det rfl rfl rfl (op_pick_f rfl rfl) ?_
  refine wl_nil ?_
  refine st_tn ?_
  refine w_cond_f (rfl) ?_
  refine w_skip ?_
  refine st_tn ?_
  refine w_seq ?_
  by_cases h1 : s.cap = t.cap
  · -- h1+
    by_cases h2 : s.down = t.down
    · -- h2+
      by_cases h3 : s.lim = t.lim
      · -- h3+
        by_cases h4 : s.left = t.left
        · -- h4+
          refine w_drawW (fun β => (⟨14, [], [], [], noW (_), false, [], []⟩ :: ⟨15, [0], [], [], noW (_), false, [], []⟩ :: ⟨16, [1], [], [], noW (_), false, [], []⟩ :: ⟨17, [2], [], [], noW (_), false, [], []⟩ :: ⟨18, [], [], [], noW (_), false, [], []⟩ :: ⟨19, [4], [], [], noW (_), false, [], []⟩ :: ⟨20, [5], [], [], noW (_), false, [], []⟩ :: ⟨21, [6], [], [], noW (_), false, [], []⟩ :: ⟨22, [3, 7], [], [], noW (_), false, [], []⟩ :: ⟨23, [8], [], [], noW (_), false, [], []⟩ :: ⟨24, [], [], [], noW (_), false, [], []⟩ :: ⟨25, [10], [], [], noW (_), false, [], []⟩ :: ⟨26, [11], [], [], noW (_), false, [], []⟩ :: ⟨27, [12], [], [], noW (_), false, [], []⟩ :: ⟨28, [], [], [], noW (_), false, [], []⟩ :: ⟨29, [14], [], [], noW (_), false, [], []⟩ :: ⟨30, [15], [], [], noW (_), false, [], []⟩ :: ⟨31, [16], [], [], noW (_), false, [], []⟩ :: ⟨32, [13, 17], [], [], noW (_), false, [], []⟩ :: ⟨33, [9, 18], [], [], noW (_), false, [], []⟩ :: ⟨34, [19], [], [], noW (_), false, [], []⟩ :: ⟨35, [], [], [], noW (_), false, [], []⟩ :: ⟨36, [21], [], [], noW (_), false, [], []⟩ :: ⟨37, [22], [], [], noW (_), false, [], []⟩ :: ⟨38, [23], [], [], noW (_), false, [], []⟩ :: ⟨39, [], [], [], noW (_), false, [], []⟩ :: ⟨40, [25], [], [], noW (_), false, [], []⟩ :: ⟨41, [26], [], [], noW (_), false, [], []⟩ :: ⟨42, [27], [], [], noW (_), false, [], []⟩ :: ⟨43, [24, 28], [], [], noW (_), false, [], []⟩ :: ⟨44, [20, 29], [], [], noW (_), false, [], []⟩ :: ⟨45, [30], [], [], noW (_), false, [], []⟩ :: ⟨46, [], [], [], noW (_), false, [], []⟩ :: ⟨47, [32], [], [], noW (_), false, [], []⟩ :: ⟨48, [33], [], [], noW (_), false, [], []⟩ :: ⟨49, [34], [], [], noW (_), false, [], []⟩ :: ⟨50, [], [], [], noW (_), false, [], []⟩ :: ⟨51, [36], [], [], noW (_), false, [], []⟩ :: ⟨52, [37], [], [], noW (_), false, [], []⟩ :: ⟨53, [38], [], [], noW (_), false, [], []⟩ :: ⟨54, [35, 39], [], [], noW (_), false, [], []⟩ :: ⟨55, [31, 40], [], [], noW (_), false, [], []⟩ :: ⟨56, [41], [], [], noW (_), false, [], []⟩ :: ⟨57, [], [], [], noW (_), false, [], []⟩ :: ⟨58, [43], [], [], noW (_), false, [], []⟩ :: ⟨59, [44], [], [], noW (_), false, [], []⟩ :: ⟨60, [45], [], [], noW (_), false, [], []⟩ :: ⟨61, [], [], [], noW (_), false, [], []⟩ :: ⟨62, [47], [], [], noW (_), false, [], []⟩ :: ⟨63, [48], [], [], noW (_), false, [], []⟩ :: ⟨64, [49], [], [], noW (_), false, [], []⟩ :: ⟨65, [46, 50], [], [], noW (_), false, [], []⟩ :: ⟨66, [42, 51], [], [], noW (_), false, [], []⟩ :: [])) [] [0, 1] (⟨14, [], [], false, [], []⟩ :: ⟨15, [0], [], false, [], []⟩ :: ⟨16, [1], [], false, [], []⟩ :: ⟨17, [2], [], false, [], []⟩ :: ⟨18, [], [], false, [], []⟩ :: ⟨19, [4], [], false, [], []⟩ :: ⟨20, [5], [], false, [], []⟩ :: ⟨21, [6], [], false, [], []⟩ :: ⟨22, [3, 7], [], false, [], []⟩ :: ⟨23, [8], [], false, [], []⟩ :: ⟨24, [], [], false, [], []⟩ :: ⟨25, [10], [], false, [], []⟩ :: ⟨26, [11], [], false, [], []⟩ :: ⟨27, [12], [], false, [], []⟩ :: ⟨28, [], [], false, [], []⟩ :: ⟨29, [14], [], false, [], []⟩ :: ⟨30, [15], [], false, [], []⟩ :: ⟨31, [16], [], false, [], []⟩ :: ⟨32, [13, 17], [], false, [], []⟩ :: ⟨33, [9, 18], [], false, [], []⟩ :: ⟨34, [19], [], false, [], []⟩ :: ⟨35, [], [], false, [], []⟩ :: ⟨36, [21], [], false, [], []⟩ :: ⟨37, [22], [], false, [], []⟩ :: ⟨38, [23], [], false, [], []⟩ :: ⟨39, [], [], false, [], []⟩ :: ⟨40, [25], [], false, [], []⟩ :: ⟨41, [26], [], false, [], []⟩ :: ⟨42, [27], [], false, [], []⟩ :: ⟨43, [24, 28], [], false, [], []⟩ :: ⟨44, [20, 29], [], false, [], []⟩ :: ⟨45, [30], [], false, [], []⟩ :: ⟨46, [], [], false, [], []⟩ :: ⟨47, [32], [], false, [], []⟩ :: ⟨48, [33], [], false, [], []⟩ :: ⟨49, [34], [], false, [], []⟩ :: ⟨50, [], [], false, [], []⟩ :: ⟨51, [36], [], false, [], []⟩ :: ⟨52, [37], [], false, [], []⟩ :: ⟨53, [38], [], false, [], []⟩ :: ⟨54, [35, 39], [], false, [], []⟩ :: ⟨55, [31, 40], [], false, [], []⟩ :: ⟨56, [41], [], false, [], []⟩ :: ⟨57, [], [], false, [], []⟩ :: ⟨58, [43], [], false, [], []⟩ :: ⟨59, [44], [], false, [], []⟩ :: ⟨60, [45], [], false, [], []⟩ :: ⟨61, [], [], false, [], []⟩ :: ⟨62, [47], [], false, [], []⟩ :: ⟨63, [48], [], false, [], []⟩ :: ⟨64, [49], [], false, [], []⟩ :: ⟨65, [46, 50], [], false, [], []⟩ :: ⟨66, [42, 51], [], false, [], []⟩ :: []) ([] :: [] :: [] :: [] :: [] :: [] :: [] :: [] :: [] :: [] :: [] :: [] :: [] :: [] :: [] :: [] :: [] :: [] :: [] :: [] :: [] :: [] :: [] :: [] :: [] :: [] :: [] :: [] :: [] :: [] :: [] :: [] :: [] :: [] :: [] :: [] :: [] :: [] :: [] :: [] :: [] :: [] :: [] :: [] :: [] :: [] :: [] :: [] :: [] :: [] :: [] :: [] :: [] :: []) ([] :: [] :: [] :: [] :: [] :: [] :: [] :: [] :: [] :: [] :: [] :: [] :: [] :: [] :: [] :: [] :: [] :: [] :: [] :: [] :: [] :: [] :: [] :: [] :: [] :: [] :: [] :: [] :: [] :: [] :: [] :: [] :: [] :: [] :: [] :: [] :: [] :: [] :: [] :: [] :: [] :: [] :: [] :: [] :: [] :: [] :: [] :: [] :: [] :: [] :: [] :: [] :: [] :: []) tMixf (fun _ => by rfl) (fun _ => by rfl) (by kernel_rfl) (by kernel_rfl) (by rfl) (by rfl)
              (fun β => ⟨.p rfl (by intro X; exact op_move rfl),
              ⟨.p rfl (by intro X; rintro _ _ ⟨rfl, rfl⟩; exact op_nilCheck rfl),
              ⟨.p rfl (by intro X; rintro _ _ ⟨rfl, rfl⟩; exact op_fieldAddr (off := 0) rfl tF90_0f),
              ⟨.p rfl (by intro X; rintro _ _ ⟨rfl, rfl⟩; exact op_load1 rfl tO3f (Ent.app (Ent.app (Ent.fld hd1 0) X) _)),
              ⟨.p rfl (by intro X; exact op_move rfl),
              ⟨.p rfl (by intro X; rintro _ _ ⟨rfl, rfl⟩; exact op_nilCheck rfl),
              ⟨.p rfl (by intro X; rintro _ _ ⟨rfl, rfl⟩; exact op_fieldAddr (off := 0) rfl tF90_0f),
              ⟨.p rfl (by intro X; rintro _ _ ⟨rfl, rfl⟩; exact op_load1 rfl tO3f (Ent.app (Ent.app (Ent.fld hd2 0) X) _)),
              ⟨.p rfl (by intro X; rintro _ _ ⟨rfl, rfl⟩ _ _ ⟨rfl, rfl⟩; exact op_val (v' := .bool true) (by simp [h1]) (op_eql rfl rfl)),
              ⟨.p rfl (by intro X; rintro _ _ ⟨rfl, rfl⟩; exact op_move rfl),
              ⟨.w rfl rfl rfl (by rintro _ _ ⟨rfl, rfl⟩; rfl) (by intro X; exact op_move rfl),
              ⟨.w rfl rfl rfl (by rintro _ _ ⟨rfl, rfl⟩; rfl) (by intro X; rintro _ _ ⟨rfl, rfl⟩; exact op_nilCheck rfl),
              ⟨.w rfl rfl rfl (by rintro _ _ ⟨rfl, rfl⟩; rfl) (by intro X; rintro _ _ ⟨rfl, rfl⟩; exact op_fieldAddr (off := 2) rfl tF90_2f),
              ⟨.w rfl rfl rfl (by rintro _ _ ⟨rfl, rfl⟩; rfl) (by intro X; rintro _ _ ⟨rfl, rfl⟩; exact op_load1 rfl tO4f (Ent.app (Ent.app (Ent.fld hd1 2) X) _)),
              ⟨.w rfl rfl rfl (by rintro _ _ ⟨rfl, rfl⟩; rfl) (by intro X; exact op_move rfl),
              ⟨.w rfl rfl rfl (by rintro _ _ ⟨rfl, rfl⟩; rfl) (by intro X; rintro _ _ ⟨rfl, rfl⟩; exact op_nilCheck rfl),
              ⟨.w rfl rfl rfl (by rintro _ _ ⟨rfl, rfl⟩; rfl) (by intro X; rintro _ _ ⟨rfl, rfl⟩; exact op_fieldAddr (off := 2) rfl tF90_2f),
              ⟨.w rfl rfl rfl (by rintro _ _ ⟨rfl, rfl⟩; rfl) (by intro X; rintro _ _ ⟨rfl, rfl⟩; exact op_load1 rfl tO4f (Ent.app (Ent.app (Ent.fld hd2 2) X) _)),
              ⟨.w rfl rfl rfl (by rintro _ _ ⟨rfl, rfl⟩; rfl) (by intro X; rintro _ _ ⟨rfl, rfl⟩ _ _ ⟨rfl, rfl⟩; exact op_val (v' := .bool true) (by simp [h2]) (op_eqB rfl rfl Try.underlying4)),
              ⟨.p rfl (by intro X; rintro _ _ ⟨rfl, rfl⟩ _ _ ⟨rfl, rfl⟩; exact op_pick_t rfl rfl),
              ⟨.p rfl (by intro X; rintro _ _ ⟨rfl, rfl⟩; exact op_move rfl),
              ⟨.w rfl rfl rfl (by rintro _ _ ⟨rfl, rfl⟩; rfl) (by intro X; exact op_move rfl),
              ⟨.w rfl rfl rfl (by rintro _ _ ⟨rfl, rfl⟩; rfl) (by intro X; rintro _ _ ⟨rfl, rfl⟩; exact op_nilCheck rfl),
              ⟨.w rfl rfl rfl (by rintro _ _ ⟨rfl, rfl⟩; rfl) (by intro X; rintro _ _ ⟨rfl, rfl⟩; exact op_fieldAddr (off := 3) rfl tF90_3f),
              ⟨.w rfl rfl rfl (by rintro _ _ ⟨rfl, rfl⟩; rfl) (by intro X; rintro _ _ ⟨rfl, rfl⟩; exact op_load1 rfl tO4f (Ent.app (Ent.app (Ent.fld hd1 3) X) _)),
              ⟨.w rfl rfl rfl (by rintro _ _ ⟨rfl, rfl⟩; rfl) (by intro X; exact op_move rfl),
              ⟨.w rfl rfl rfl (by rintro _ _ ⟨rfl, rfl⟩; rfl) (by intro X; rintro _ _ ⟨rfl, rfl⟩; exact op_nilCheck rfl),
              ⟨.w rfl rfl rfl (by rintro _ _ ⟨rfl, rfl⟩; rfl) (by intro X; rintro _ _ ⟨rfl, rfl⟩; exact op_fieldAddr (off := 3) rfl tF90_3f),
              ⟨.w rfl rfl rfl (by rintro _ _ ⟨rfl, rfl⟩; rfl) (by intro X; rintro _ _ ⟨rfl, rfl⟩; exact op_load1 rfl tO4f (Ent.app (Ent.app (Ent.fld hd2 3) X) _)),
              ⟨.w rfl rfl rfl (by rintro _ _ ⟨rfl, rfl⟩; rfl) (by intro X; rintro _ _ ⟨rfl, rfl⟩ _ _ ⟨rfl, rfl⟩; exact op_val (v' := .bool true) (by simp [h3]) (op_eqB rfl rfl Try.underlying4)),
              ⟨.p rfl (by intro X; rintro _ _ ⟨rfl, rfl⟩ _ _ ⟨rfl, rfl⟩; exact op_pick_t rfl rfl),
              ⟨.p rfl (by intro X; rintro _ _ ⟨rfl, rfl⟩; exact op_move rfl),
              ⟨.w rfl rfl rfl (by rintro _ _ ⟨rfl, rfl⟩; rfl) (by intro X; exact op_move rfl),
              ⟨.w rfl rfl rfl (by rintro _ _ ⟨rfl, rfl⟩; rfl) (by intro X; rintro _ _ ⟨rfl, rfl⟩; exact op_nilCheck rfl),
              ⟨.w rfl rfl rfl (by rintro _ _ ⟨rfl, rfl⟩; rfl) (by intro X; rintro _ _ ⟨rfl, rfl⟩; exact op_fieldAddr (off := 4) rfl tF90_4f),
              ⟨.w rfl rfl rfl (by rintro _ _ ⟨rfl, rfl⟩; rfl) (by intro X; rintro _ _ ⟨rfl, rfl⟩; exact op_load1 rfl tO3f (Ent.app (Ent.app (Ent.fld hd1 4) X) _)),
              ⟨.w rfl rfl rfl (by rintro _ _ ⟨rfl, rfl⟩; rfl) (by intro X; exact op_move rfl),
              ⟨.w rfl rfl rfl (by rintro _ _ ⟨rfl, rfl⟩; rfl) (by intro X; rintro _ _ ⟨rfl, rfl⟩; exact op_nilCheck rfl),
              ⟨.w rfl rfl rfl (by rintro _ _ ⟨rfl, rfl⟩; rfl) (by intro X; rintro _ _ ⟨rfl, rfl⟩; exact op_fieldAddr (off := 4) rfl tF90_4f),
              ⟨.w rfl rfl rfl (by rintro _ _ ⟨rfl, rfl⟩; rfl) (by intro X; rintro _ _ ⟨rfl, rfl⟩; exact op_load1 rfl tO3f (Ent.app (Ent.app (Ent.fld hd2 4) X) _)),
              ⟨.w rfl rfl rfl (by rintro _ _ ⟨rfl, rfl⟩; rfl) (by intro X; rintro _ _ ⟨rfl, rfl⟩ _ _ ⟨rfl, rfl⟩; exact op_val (v' := .bool true) (by simp [h4]) (op_eql rfl rfl)),
              ⟨.p rfl (by intro X; rintro _ _ ⟨rfl, rfl⟩ _ _ ⟨rfl, rfl⟩; exact op_pick_t rfl rfl),
              ⟨.p rfl (by intro X; rintro _ _ ⟨rfl, rfl⟩; exact op_move rfl),
              ⟨.w rfl rfl rfl (by rintro _ _ ⟨rfl, rfl⟩; rfl) (by intro X; exact op_move rfl),
              ⟨.w rfl rfl rfl (by rintro _ _ ⟨rfl, rfl⟩; rfl) (by intro X; rintro _ _ ⟨rfl, rfl⟩; exact op_nilCheck rfl),
              ⟨.w rfl rfl rfl (by rintro _ _ ⟨rfl, rfl⟩; rfl) (by intro X; rintro _ _ ⟨rfl, rfl⟩; exact op_fieldAddr (off := 1) rfl tF90_1f),
              ⟨.w rfl rfl rfl (by rintro _ _ ⟨rfl, rfl⟩; rfl) (by intro X; rintro _ _ ⟨rfl, rfl⟩; exact op_load1 rfl tO88f (Ent.app (Ent.app (Ent.fld hd1 1) X) _)),
              ⟨.w rfl rfl rfl (by rintro _ _ ⟨rfl, rfl⟩; rfl) (by intro X; exact op_move rfl),
              ⟨.w rfl rfl rfl (by rintro _ _ ⟨rfl, rfl⟩; rfl) (by intro X; rintro _ _ ⟨rfl, rfl⟩; exact op_nilCheck rfl),
              ⟨.w rfl rfl rfl (by rintro _ _ ⟨rfl, rfl⟩; rfl) (by intro X; rintro _ _ ⟨rfl, rfl⟩; exact op_fieldAddr (off := 1) rfl tF90_1f),
              ⟨.w rfl rfl rfl (by rintro _ _ ⟨rfl, rfl⟩; rfl) (by intro X; rintro _ _ ⟨rfl, rfl⟩; exact op_load1 rfl tO88f (Ent.app (Ent.app (Ent.fld hd2 1) X) _)),
              ⟨.w rfl rfl rfl (by rintro _ _ ⟨rfl, rfl⟩; rfl) (by intro X; rintro _ _ ⟨rfl, rfl⟩ _ _ ⟨rfl, rfl⟩; exact op_fn Try.func55 rfl rfl rfl (mequal_any hp1 hp2 hg1.inc hg2.inc (Ent.app (Ent.app hm X) _) (Ent.app (Ent.app hm2' X) _))),
              ⟨.p rfl (by intro X; rintro _ _ ⟨rfl, rfl⟩ _ _ ⟨rfl, rfl⟩; exact op_pick_t rfl rfl),
              trivial⟩⟩⟩⟩⟩⟩⟩⟩⟩⟩⟩⟩⟩⟩⟩⟩⟩⟩⟩⟩⟩⟩⟩⟩⟩⟩⟩⟩⟩⟩⟩⟩⟩⟩⟩⟩⟩⟩⟩⟩⟩⟩⟩⟩⟩⟩⟩⟩⟩⟩⟩⟩⟩)
              (fun β β' => ⟨fun _ => by rfl, ⟨fun _ => by rfl, ⟨fun _ => by rfl, ⟨fun _ => by rfl, ⟨fun _ => by rfl, ⟨fun _ => by rfl, ⟨fun _ => by rfl, ⟨fun _ => by rfl, ⟨fun _ => by rfl, ⟨fun _ => by rfl, ⟨fun _ => by rfl, ⟨fun _ => by rfl, ⟨fun _ => by rfl, ⟨fun _ => by rfl, ⟨fun _ => by rfl, ⟨fun _ => by rfl, ⟨fun _ => by rfl, ⟨fun _ => by rfl, ⟨fun _ => by rfl, ⟨fun _ => by rfl, ⟨fun _ => by rfl, ⟨fun _ => by rfl, ⟨fun _ => by rfl, ⟨fun _ => by rfl, ⟨fun _ => by rfl, ⟨fun _ => by rfl, ⟨fun _ => by rfl, ⟨fun _ => by rfl, ⟨fun _ => by rfl, ⟨fun _ => by rfl, ⟨fun _ => by rfl, ⟨fun _ => by rfl, ⟨fun _ => by rfl, ⟨fun _ => by rfl, ⟨fun _ => by rfl, ⟨fun _ => by rfl, ⟨fun _ => by rfl, ⟨fun _ => by rfl, ⟨fun _ => by rfl, ⟨fun _ => by rfl, ⟨fun _ => by rfl, ⟨fun _ => by rfl, ⟨fun _ => by rfl, ⟨fun _ => by rfl, ⟨fun _ => by rfl, ⟨fun _ => by rfl, ⟨fun _ => by rfl, ⟨fun _ => by rfl, ⟨fun _ => by rfl, ⟨fun _ => by rfl, ⟨fun _ => by rfl, ⟨fun _ => by rfl, ⟨fun _ => by rfl, trivial⟩⟩⟩⟩⟩⟩⟩⟩⟩⟩⟩⟩⟩⟩⟩⟩⟩⟩⟩⟩⟩⟩⟩⟩⟩⟩⟩⟩⟩⟩⟩⟩⟩⟩⟩⟩⟩⟩⟩⟩⟩⟩⟩⟩⟩⟩⟩⟩⟩⟩⟩⟩⟩) ?_
          intro β
          rintro _ _ ⟨rfl, rfl⟩ _ _ ⟨rfl, rfl⟩ _ _ ⟨rfl, rfl⟩ _ _ ⟨rfl, rfl⟩ _ _ ⟨rfl, rfl⟩ _ _ ⟨rfl, rfl⟩ _ _ ⟨rfl, rfl⟩ _ _ ⟨rfl, rfl⟩ _ _ ⟨rfl, rfl⟩ _ _ ⟨rfl, rfl⟩ _ _ ⟨rfl, rfl⟩ _ _ ⟨rfl, rfl⟩ _ _ ⟨rfl, rfl⟩ _ _ ⟨rfl, rfl⟩ _ _ ⟨rfl, rfl⟩ _ _ ⟨rfl, rfl⟩ _ _ ⟨rfl, rfl⟩ _ _ ⟨rfl, rfl⟩ _ _ ⟨rfl, rfl⟩ _ _ ⟨rfl, rfl⟩ _ _ ⟨rfl, rfl⟩ _ _ ⟨rfl, rfl⟩ _ _ ⟨rfl, rfl⟩ _ _ ⟨rfl, rfl⟩ _ _ ⟨rfl, rfl⟩ _ _ ⟨rfl, rfl⟩ _ _ ⟨rfl, rfl⟩ _ _ ⟨rfl, rfl⟩ _ _ ⟨rfl, rfl⟩ _ _ ⟨rfl, rfl⟩ _ _ ⟨rfl, rfl⟩ _ _ ⟨rfl, rfl⟩ _ _ ⟨rfl, rfl⟩ _ _ ⟨rfl, rfl⟩ _ _ ⟨rfl, rfl⟩ _ _ ⟨rfl, rfl⟩ _ _ ⟨rfl, rfl⟩ _ _ ⟨rfl, rfl⟩ _ _ ⟨rfl, rfl⟩ _ _ ⟨rfl, rfl⟩ _ _ ⟨rfl, rfl⟩ _ _ ⟨rfl, rfl⟩ _ _ ⟨rfl, rfl⟩ _ _ ⟨rfl, rfl⟩ _ _ ⟨rfl, rfl⟩ _ _ ⟨rfl, rfl⟩ _ _ ⟨rfl, rfl⟩ _ _ ⟨rfl, rfl⟩ _ _ ⟨rfl, rfl⟩ _ _ ⟨rfl, rfl⟩ _ _ ⟨rfl, rfl⟩ _ _ ⟨rfl, rfl⟩ _ _ ⟨rfl, rfl⟩
          refine wl_norm (e' := [(66, _)]) (.cons rfl (.nil _)) (by dsimp only [cond_false, cond_true, List.nil_append, List.cons_append]) ?_
          refine wl_det rfl rfl rfl (op_assign rfl) ?_
          refine wl_nil ?_
          refine st_tn ?_
          refine w_ret ?_
          refine st_ret (vs := [_]) [] Try.results22 ⟨rfl, trivial⟩ rfl ?_
          refine ⟨_, rfl, ?_⟩
          refine ⟨?_, rfl⟩
          simp only [retv]
          rw [dec_st]
          simp [h1, h2, h3, h4]
        · -- h4-
          refine w_drawW (fun β => (⟨14, [], [], [], noW (_), false, [], []⟩ :: ⟨15, [0], [], [], noW (_), false, [], []⟩ :: ⟨16, [1], [], [], noW (_), false, [], []⟩ :: ⟨17, [2], [], [], noW (_), false, [], []⟩ :: ⟨18, [], [], [], noW (_), false, [], []⟩ :: ⟨19, [4], [], [], noW (_), false, [], []⟩ :: ⟨20, [5], [], [], noW (_), false, [], []⟩ :: ⟨21, [6], [], [], noW (_), false, [], []⟩ :: ⟨22, [3, 7], [], [], noW (_), false, [], []⟩ :: ⟨23, [8], [], [], noW (_), false, [], []⟩ :: ⟨24, [], [], [], noW (_), false, [], []⟩ :: ⟨25, [10], [], [], noW (_), false, [], []⟩ :: ⟨26, [11], [], [], noW (_), false, [], []⟩ :: ⟨27, [12], [], [], noW (_), false, [], []⟩ :: ⟨28, [], [], [], noW (_), false, [], []⟩ :: ⟨29, [14], [], [], noW (_), false, [], []⟩ :: ⟨30, [15], [], [], noW (_), false, [], []⟩ :: ⟨31, [16], [], [], noW (_), false, [], []⟩ :: ⟨32, [13, 17], [], [], noW (_), false, [], []⟩ :: ⟨33, [9, 18], [], [], noW (_), false, [], []⟩ :: ⟨34, [19], [], [], noW (_), false, [], []⟩ :: ⟨35, [], [], [], noW (_), false, [], []⟩ :: ⟨36, [21], [], [], noW (_), false, [], []⟩ :: ⟨37, [22], [], [], noW (_), false, [], []⟩ :: ⟨38, [23], [], [], noW (_), false, [], []⟩ :: ⟨39, [], [], [], noW (_), false, [], []⟩ :: ⟨40, [25], [], [], noW (_), false, [], []⟩ :: ⟨41, [26], [], [], noW (_), false, [], []⟩ :: ⟨42, [27], [], [], noW (_), false, [], []⟩ :: ⟨43, [24, 28], [], [], noW (_), false, [], []⟩ :: ⟨44, [20, 29], [], [], noW (_), false, [], []⟩ :: ⟨45, [30], [], [], noW (_), false, [], []⟩ :: ⟨46, [], [], [], noW (_), false, [], []⟩ :: ⟨47, [32], [], [], noW (_), false, [], []⟩ :: ⟨48, [33], [], [], noW (_), false, [], []⟩ :: ⟨49, [34], [], [], noW (_), false, [], []⟩ :: ⟨50, [], [], [], noW (_), false, [], []⟩ :: ⟨51, [36], [], [], noW (_), false, [], []⟩ :: ⟨52, [37], [], [], noW (_), false, [], []⟩ :: ⟨53, [38], [], [], noW (_), false, [], []⟩ :: ⟨54, [35, 39], [], [], noW (_), false, [], []⟩ :: ⟨55, [31, 40], [], [], noW (_), false, [], []⟩ :: ⟨56, [41], [], [], noW (_), false, [], []⟩ :: ⟨57, [], [], [], noW (Det undef), false, [], []⟩ :: ⟨58, [], [], [], noW (Det undef), false, [], []⟩ :: ⟨59, [], [], [], noW (Det undef), false, [], []⟩ :: ⟨60, [], [], [], noW (Det undef), false, [], []⟩ :: ⟨61, [], [], [], noW (Det undef), false, [], []⟩ :: ⟨62, [], [], [], noW (Det undef), false, [], []⟩ :: ⟨63, [], [], [], noW (Det undef), false, [], []⟩ :: ⟨64, [], [], [], noW (Det undef), false, [], []⟩ :: ⟨65, [], [], [], noW (Det undef), false, [], []⟩ :: ⟨66, [42, 51], [], [], noW (_), false, [], []⟩ :: [])) [] [0, 1] (⟨14, [], [], false, [], []⟩ :: ⟨15, [0], [], false, [], []⟩ :: ⟨16, [1], [], false, [], []⟩ :: ⟨17, [2], [], false, [], []⟩ :: ⟨18, [], [], false, [], []⟩ :: ⟨19, [4], [], false, [], []⟩ :: ⟨20, [5], [], false, [], []⟩ :: ⟨21, [6], [], false, [], []⟩ :: ⟨22, [3, 7], [], false, [], []⟩ :: ⟨23, [8], [], false, [], []⟩ :: ⟨24, [], [], false, [], []⟩ :: ⟨25, [10], [], false, [], []⟩ :: ⟨26, [11], [], false, [], []⟩ :: ⟨27, [12], [], false, [], []⟩ :: ⟨28, [], [], false, [], []⟩ :: ⟨29, [14], [], false, [], []⟩ :: ⟨30, [15], [], false, [], []⟩ :: ⟨31, [16], [], false, [], []⟩ :: ⟨32, [13, 17], [], false, [], []⟩ :: ⟨33, [9, 18], [], false, [], []⟩ :: ⟨34, [19], [], false, [], []⟩ :: ⟨35, [], [], false, [], []⟩ :: ⟨36, [21], [], false, [], []⟩ :: ⟨37, [22], [], false, [], []⟩ :: ⟨38, [23], [], false, [], []⟩ :: ⟨39, [], [], false, [], []⟩ :: ⟨40, [25], [], false, [], []⟩ :: ⟨41, [26], [], false, [], []⟩ :: ⟨42, [27], [], false, [], []⟩ :: ⟨43, [24, 28], [], false, [], []⟩ :: ⟨44, [20, 29], [], false, [], []⟩ :: ⟨45, [30], [], false, [], []⟩ :: ⟨46, [], [], false, [], []⟩ :: ⟨47, [32], [], false, [], []⟩ :: ⟨48, [33], [], false, [], []⟩ :: ⟨49, [34], [], false, [], []⟩ :: ⟨50, [], [], false, [], []⟩ :: ⟨51, [36], [], false, [], []⟩ :: ⟨52, [37], [], false, [], []⟩ :: ⟨53, [38], [], false, [], []⟩ :: ⟨54, [35, 39], [], false, [], []⟩ :: ⟨55, [31, 40], [], false, [], []⟩ :: ⟨56, [41], [], false, [], []⟩ :: ⟨57, [], [], false, [], []⟩ :: ⟨58, [], [], false, [], []⟩ :: ⟨59, [], [], false, [], []⟩ :: ⟨60, [], [], false, [], []⟩ :: ⟨61, [], [], false, [], []⟩ :: ⟨62, [], [], false, [], []⟩ :: ⟨63, [], [], false, [], []⟩ :: ⟨64, [], [], false, [], []⟩ :: ⟨65, [], [], false, [], []⟩ :: ⟨66, [42, 51], [], false, [], []⟩ :: []) ([] :: [] :: [] :: [] :: [] :: [] :: [] :: [] :: [] :: [] :: [] :: [] :: [] :: [] :: [] :: [] :: [] :: [] :: [] :: [] :: [] :: [] :: [] :: [] :: [] :: [] :: [] :: [] :: [] :: [] :: [] :: [] :: [] :: [] :: [] :: [] :: [] :: [] :: [] :: [] :: [] :: [] :: [] :: [] :: [] :: [] :: [] :: [] :: [] :: [] :: [] :: [] :: [] :: []) ([] :: [] :: [] :: [] :: [] :: [] :: [] :: [] :: [] :: [] :: [] :: [] :: [] :: [] :: [] :: [] :: [] :: [] :: [] :: [] :: [] :: [] :: [] :: [] :: [] :: [] :: [] :: [] :: [] :: [] :: [] :: [] :: [] :: [] :: [] :: [] :: [] :: [] :: [] :: [] :: [] :: [] :: [] :: [] :: [] :: [] :: [] :: [] :: [] :: [] :: [] :: [] :: [] :: []) tMixf (fun _ => by rfl) (fun _ => by rfl) (by kernel_rfl) (by kernel_rfl) (by rfl) (by rfl)
              (fun β => ⟨.p rfl (by intro X; exact op_move rfl),
              ⟨.p rfl (by intro X; rintro _ _ ⟨rfl, rfl⟩; exact op_nilCheck rfl),
              ⟨.p rfl (by intro X; rintro _ _ ⟨rfl, rfl⟩; exact op_fieldAddr (off := 0) rfl tF90_0f),
              ⟨.p rfl (by intro X; rintro _ _ ⟨rfl, rfl⟩; exact op_load1 rfl tO3f (Ent.app (Ent.app (Ent.fld hd1 0) X) _)),
              ⟨.p rfl (by intro X; exact op_move rfl),
              ⟨.p rfl (by intro X; rintro _ _ ⟨rfl, rfl⟩; exact op_nilCheck rfl),
              ⟨.p rfl (by intro X; rintro _ _ ⟨rfl, rfl⟩; exact op_fieldAddr (off := 0) rfl tF90_0f),
              ⟨.p rfl (by intro X; rintro _ _ ⟨rfl, rfl⟩; exact op_load1 rfl tO3f (Ent.app (Ent.app (Ent.fld hd2 0) X) _)),
              ⟨.p rfl (by intro X; rintro _ _ ⟨rfl, rfl⟩ _ _ ⟨rfl, rfl⟩; exact op_val (v' := .bool true) (by simp [h1]) (op_eql rfl rfl)),
              ⟨.p rfl (by intro X; rintro _ _ ⟨rfl, rfl⟩; exact op_move rfl),
              ⟨.w rfl rfl rfl (by rintro _ _ ⟨rfl, rfl⟩; rfl) (by intro X; exact op_move rfl),
              ⟨.w rfl rfl rfl (by rintro _ _ ⟨rfl, rfl⟩; rfl) (by intro X; rintro _ _ ⟨rfl, rfl⟩; exact op_nilCheck rfl),
              ⟨.w rfl rfl rfl (by rintro _ _ ⟨rfl, rfl⟩; rfl) (by intro X; rintro _ _ ⟨rfl, rfl⟩; exact op_fieldAddr (off := 2) rfl tF90_2f),
              ⟨.w rfl rfl rfl (by rintro _ _ ⟨rfl, rfl⟩; rfl) (by intro X; rintro _ _ ⟨rfl, rfl⟩; exact op_load1 rfl tO4f (Ent.app (Ent.app (Ent.fld hd1 2) X) _)),
              ⟨.w rfl rfl rfl (by rintro _ _ ⟨rfl, rfl⟩; rfl) (by intro X; exact op_move rfl),
              ⟨.w rfl rfl rfl (by rintro _ _ ⟨rfl, rfl⟩; rfl) (by intro X; rintro _ _ ⟨rfl, rfl⟩; exact op_nilCheck rfl),
              ⟨.w rfl rfl rfl (by rintro _ _ ⟨rfl, rfl⟩; rfl) (by intro X; rintro _ _ ⟨rfl, rfl⟩; exact op_fieldAddr (off := 2) rfl tF90_2f),
              ⟨.w rfl rfl rfl (by rintro _ _ ⟨rfl, rfl⟩; rfl) (by intro X; rintro _ _ ⟨rfl, rfl⟩; exact op_load1 rfl tO4f (Ent.app (Ent.app (Ent.fld hd2 2) X) _)),
              ⟨.w rfl rfl rfl (by rintro _ _ ⟨rfl, rfl⟩; rfl) (by intro X; rintro _ _ ⟨rfl, rfl⟩ _ _ ⟨rfl, rfl⟩; exact op_val (v' := .bool true) (by simp [h2]) (op_eqB rfl rfl Try.underlying4)),
              ⟨.p rfl (by intro X; rintro _ _ ⟨rfl, rfl⟩ _ _ ⟨rfl, rfl⟩; exact op_pick_t rfl rfl),
              ⟨.p rfl (by intro X; rintro _ _ ⟨rfl, rfl⟩; exact op_move rfl),
              ⟨.w rfl rfl rfl (by rintro _ _ ⟨rfl, rfl⟩; rfl) (by intro X; exact op_move rfl),
              ⟨.w rfl rfl rfl (by rintro _ _ ⟨rfl, rfl⟩; rfl) (by intro X; rintro _ _ ⟨rfl, rfl⟩; exact op_nilCheck rfl),
              ⟨.w rfl rfl rfl (by rintro _ _ ⟨rfl, rfl⟩; rfl) (by intro X; rintro _ _ ⟨rfl, rfl⟩; exact op_fieldAddr (off := 3) rfl tF90_3f),
              ⟨.w rfl rfl rfl (by rintro _ _ ⟨rfl, rfl⟩; rfl) (by intro X; rintro _ _ ⟨rfl, rfl⟩; exact op_load1 rfl tO4f (Ent.app (Ent.app (Ent.fld hd1 3) X) _)),
              ⟨.w rfl rfl rfl (by rintro _ _ ⟨rfl, rfl⟩; rfl) (by intro X; exact op_move rfl),
              ⟨.w rfl rfl rfl (by rintro _ _ ⟨rfl, rfl⟩; rfl) (by intro X; rintro _ _ ⟨rfl, rfl⟩; exact op_nilCheck rfl),
              ⟨.w rfl rfl rfl (by rintro _ _ ⟨rfl, rfl⟩; rfl) (by intro X; rintro _ _ ⟨rfl, rfl⟩; exact op_fieldAddr (off := 3) rfl tF90_3f),
              ⟨.w rfl rfl rfl (by rintro _ _ ⟨rfl, rfl⟩; rfl) (by intro X; rintro _ _ ⟨rfl, rfl⟩; exact op_load1 rfl tO4f (Ent.app (Ent.app (Ent.fld hd2 3) X) _)),
              ⟨.w rfl rfl rfl (by rintro _ _ ⟨rfl, rfl⟩; rfl) (by intro X; rintro _ _ ⟨rfl, rfl⟩ _ _ ⟨rfl, rfl⟩; exact op_val (v' := .bool true) (by simp [h3]) (op_eqB rfl rfl Try.underlying4)),
              ⟨.p rfl (by intro X; rintro _ _ ⟨rfl, rfl⟩ _ _ ⟨rfl, rfl⟩; exact op_pick_t rfl rfl),
              ⟨.p rfl (by intro X; rintro _ _ ⟨rfl, rfl⟩; exact op_move rfl),
              ⟨.w rfl rfl rfl (by rintro _ _ ⟨rfl, rfl⟩; rfl) (by intro X; exact op_move rfl),
              ⟨.w rfl rfl rfl (by rintro _ _ ⟨rfl, rfl⟩; rfl) (by intro X; rintro _ _ ⟨rfl, rfl⟩; exact op_nilCheck rfl),
              ⟨.w rfl rfl rfl (by rintro _ _ ⟨rfl, rfl⟩; rfl) (by intro X; rintro _ _ ⟨rfl, rfl⟩; exact op_fieldAddr (off := 4) rfl tF90_4f),
              ⟨.w rfl rfl rfl (by rintro _ _ ⟨rfl, rfl⟩; rfl) (by intro X; rintro _ _ ⟨rfl, rfl⟩; exact op_load1 rfl tO3f (Ent.app (Ent.app (Ent.fld hd1 4) X) _)),
              ⟨.w rfl rfl rfl (by rintro _ _ ⟨rfl, rfl⟩; rfl) (by intro X; exact op_move rfl),
              ⟨.w rfl rfl rfl (by rintro _ _ ⟨rfl, rfl⟩; rfl) (by intro X; rintro _ _ ⟨rfl, rfl⟩; exact op_nilCheck rfl),
              ⟨.w rfl rfl rfl (by rintro _ _ ⟨rfl, rfl⟩; rfl) (by intro X; rintro _ _ ⟨rfl, rfl⟩; exact op_fieldAddr (off := 4) rfl tF90_4f),
              ⟨.w rfl rfl rfl (by rintro _ _ ⟨rfl, rfl⟩; rfl) (by intro X; rintro _ _ ⟨rfl, rfl⟩; exact op_load1 rfl tO3f (Ent.app (Ent.app (Ent.fld hd2 4) X) _)),
              ⟨.w rfl rfl rfl (by rintro _ _ ⟨rfl, rfl⟩; rfl) (by intro X; rintro _ _ ⟨rfl, rfl⟩ _ _ ⟨rfl, rfl⟩; exact op_val (v' := .bool false) (by simp [h4]) (op_eql rfl rfl)),
              ⟨.p rfl (by intro X; rintro _ _ ⟨rfl, rfl⟩ _ _ ⟨rfl, rfl⟩; exact op_pick_t rfl rfl),
              ⟨.p rfl (by intro X; rintro _ _ ⟨rfl, rfl⟩; exact op_move rfl),
              ⟨.u rfl rfl rfl (by rintro _ _ ⟨rfl, rfl⟩; exact congrArg (offB true) (by rfl : _ = Value.bool false)) ⟨rfl, rfl⟩ rfl rfl,
              ⟨.u rfl rfl rfl (by rintro _ _ ⟨rfl, rfl⟩; exact congrArg (offB true) (by rfl : _ = Value.bool false)) ⟨rfl, rfl⟩ rfl rfl,
              ⟨.u rfl rfl rfl (by rintro _ _ ⟨rfl, rfl⟩; exact congrArg (offB true) (by rfl : _ = Value.bool false)) ⟨rfl, rfl⟩ rfl rfl,
              ⟨.u rfl rfl rfl (by rintro _ _ ⟨rfl, rfl⟩; exact congrArg (offB true) (by rfl : _ = Value.bool false)) ⟨rfl, rfl⟩ rfl rfl,
              ⟨.u rfl rfl rfl (by rintro _ _ ⟨rfl, rfl⟩; exact congrArg (offB true) (by rfl : _ = Value.bool false)) ⟨rfl, rfl⟩ rfl rfl,
              ⟨.u rfl rfl rfl (by rintro _ _ ⟨rfl, rfl⟩; exact congrArg (offB true) (by rfl : _ = Value.bool false)) ⟨rfl, rfl⟩ rfl rfl,
              ⟨.u rfl rfl rfl (by rintro _ _ ⟨rfl, rfl⟩; exact congrArg (offB true) (by rfl : _ = Value.bool false)) ⟨rfl, rfl⟩ rfl rfl,
              ⟨.u rfl rfl rfl (by rintro _ _ ⟨rfl, rfl⟩; exact congrArg (offB true) (by rfl : _ = Value.bool false)) ⟨rfl, rfl⟩ rfl rfl,
              ⟨.u rfl rfl rfl (by rintro _ _ ⟨rfl, rfl⟩; exact congrArg (offB true) (by rfl : _ = Value.bool false)) ⟨rfl, rfl⟩ rfl rfl,
              ⟨.p rfl (by intro X; rintro _ _ ⟨rfl, rfl⟩ _ _ ⟨rfl, rfl⟩; exact op_pick_f rfl rfl),
              trivial⟩⟩⟩⟩⟩⟩⟩⟩⟩⟩⟩⟩⟩⟩⟩⟩⟩⟩⟩⟩⟩⟩⟩⟩⟩⟩⟩⟩⟩⟩⟩⟩⟩⟩⟩⟩⟩⟩⟩⟩⟩⟩⟩⟩⟩⟩⟩⟩⟩⟩⟩⟩⟩)
              (fun β β' => ⟨fun _ => by rfl, ⟨fun _ => by rfl, ⟨fun _ => by rfl, ⟨fun _ => by rfl, ⟨fun _ => by rfl, ⟨fun _ => by rfl, ⟨fun _ => by rfl, ⟨fun _ => by rfl, ⟨fun _ => by rfl, ⟨fun _ => by rfl, ⟨fun _ => by rfl, ⟨fun _ => by rfl, ⟨fun _ => by rfl, ⟨fun _ => by rfl, ⟨fun _ => by rfl, ⟨fun _ => by rfl, ⟨fun _ => by rfl, ⟨fun _ => by rfl, ⟨fun _ => by rfl, ⟨fun _ => by rfl, ⟨fun _ => by rfl, ⟨fun _ => by rfl, ⟨fun _ => by rfl, ⟨fun _ => by rfl, ⟨fun _ => by rfl, ⟨fun _ => by rfl, ⟨fun _ => by rfl, ⟨fun _ => by rfl, ⟨fun _ => by rfl, ⟨fun _ => by rfl, ⟨fun _ => by rfl, ⟨fun _ => by rfl, ⟨fun _ => by rfl, ⟨fun _ => by rfl, ⟨fun _ => by rfl, ⟨fun _ => by rfl, ⟨fun _ => by rfl, ⟨fun _ => by rfl, ⟨fun _ => by rfl, ⟨fun _ => by rfl, ⟨fun _ => by rfl, ⟨fun _ => by rfl, ⟨fun _ => by rfl, ⟨fun _ => by rfl, ⟨fun _ => by rfl, ⟨fun _ => by rfl, ⟨fun _ => by rfl, ⟨fun _ => by rfl, ⟨fun _ => by rfl, ⟨fun _ => by rfl, ⟨fun _ => by rfl, ⟨fun _ => by rfl, ⟨fun _ => by rfl, trivial⟩⟩⟩⟩⟩⟩⟩⟩⟩⟩⟩⟩⟩⟩⟩⟩⟩⟩⟩⟩⟩⟩⟩⟩⟩⟩⟩⟩⟩⟩⟩⟩⟩⟩⟩⟩⟩⟩⟩⟩⟩⟩⟩⟩⟩⟩⟩⟩⟩⟩⟩⟩⟩) ?_
          intro β
          rintro _ _ ⟨rfl, rfl⟩ _ _ ⟨rfl, rfl⟩ _ _ ⟨rfl, rfl⟩ _ _ ⟨rfl, rfl⟩ _ _ ⟨rfl, rfl⟩ _ _ ⟨rfl, rfl⟩ _ _ ⟨rfl, rfl⟩ _ _ ⟨rfl, rfl⟩ _ _ ⟨rfl, rfl⟩ _ _ ⟨rfl, rfl⟩ _ _ ⟨rfl, rfl⟩ _ _ ⟨rfl, rfl⟩ _ _ ⟨rfl, rfl⟩ _ _ ⟨rfl, rfl⟩ _ _ ⟨rfl, rfl⟩ _ _ ⟨rfl, rfl⟩ _ _ ⟨rfl, rfl⟩ _ _ ⟨rfl, rfl⟩ _ _ ⟨rfl, rfl⟩ _ _ ⟨rfl, rfl⟩ _ _ ⟨rfl, rfl⟩ _ _ ⟨rfl, rfl⟩ _ _ ⟨rfl, rfl⟩ _ _ ⟨rfl, rfl⟩ _ _ ⟨rfl, rfl⟩ _ _ ⟨rfl, rfl⟩ _ _ ⟨rfl, rfl⟩ _ _ ⟨rfl, rfl⟩ _ _ ⟨rfl, rfl⟩ _ _ ⟨rfl, rfl⟩ _ _ ⟨rfl, rfl⟩ _ _ ⟨rfl, rfl⟩ _ _ ⟨rfl, rfl⟩ _ _ ⟨rfl, rfl⟩ _ _ ⟨rfl, rfl⟩ _ _ ⟨rfl, rfl⟩ _ _ ⟨rfl, rfl⟩ _ _ ⟨rfl, rfl⟩ _ _ ⟨rfl, rfl⟩ _ _ ⟨rfl, rfl⟩ _ _ ⟨rfl, rfl⟩ _ _ ⟨rfl, rfl⟩ _ _ ⟨rfl, rfl⟩ _ _ ⟨rfl, rfl⟩ _ _ ⟨rfl, rfl⟩ _ _ ⟨rfl, rfl⟩ _ _ ⟨rfl, rfl⟩ _ _ ⟨rfl, rfl⟩ _ _ ⟨rfl, rfl⟩ _ _ ⟨rfl, rfl⟩ _ _ ⟨rfl, rfl⟩ _ _ ⟨rfl, rfl⟩ _ _ ⟨rfl, rfl⟩
          refine wl_norm (e' := [(66, _)]) (.cons rfl (.nil _)) (by dsimp only [cond_false, cond_true, List.nil_append, List.cons_append]) ?_
          refine wl_det rfl rfl rfl (op_assign rfl) ?_
          refine wl_nil ?_
          refine st_tn ?_
          refine w_ret ?_
          refine st_ret (vs := [_]) [] Try.results22 ⟨rfl, trivial⟩ rfl ?_
          refine ⟨_, rfl, ?_⟩
          refine ⟨?_, rfl⟩
          simp only [retv]
          rw [dec_st]
          simp [h4]
      · -- h3-
        refine w_drawW (fun β => (⟨14, [], [], [], noW (_), false, [], []⟩ :: ⟨15, [0], [], [], noW (_), false, [], []⟩ :: ⟨16, [1], [], [], noW (_), false, [], []⟩ :: ⟨17, [2], [], [], noW (_), false, [], []⟩ :: ⟨18, [], [], [], noW (_), false, [], []⟩ :: ⟨19, [4], [], [], noW (_), false, [], []⟩ :: ⟨20, [5], [], [], noW (_), false, [], []⟩ :: ⟨21, [6], [], [], noW (_), false, [], []⟩ :: ⟨22, [3, 7], [], [], noW (_), false, [], []⟩ :: ⟨23, [8], [], [], noW (_), false, [], []⟩ :: ⟨24, [], [], [], noW (_), false, [], []⟩ :: ⟨25, [10], [], [], noW (_), false, [], []⟩ :: ⟨26, [11], [], [], noW (_), false, [], []⟩ :: ⟨27, [12], [], [], noW (_), false, [], []⟩ :: ⟨28, [], [], [], noW (_), false, [], []⟩ :: ⟨29, [14], [], [], noW (_), false, [], []⟩ :: ⟨30, [15], [], [], noW (_), false, [], []⟩ :: ⟨31, [16], [], [], noW (_), false, [], []⟩ :: ⟨32, [13, 17], [], [], noW (_), false, [], []⟩ :: ⟨33, [9, 18], [], [], noW (_), false, [], []⟩ :: ⟨34, [19], [], [], noW (_), false, [], []⟩ :: ⟨35, [], [], [], noW (_), false, [], []⟩ :: ⟨36, [21], [], [], noW (_), false, [], []⟩ :: ⟨37, [22], [], [], noW (_), false, [], []⟩ :: ⟨38, [23], [], [], noW (_), false, [], []⟩ :: ⟨39, [], [], [], noW (_), false, [], []⟩ :: ⟨40, [25], [], [], noW (_), false, [], []⟩ :: ⟨41, [26], [], [], noW (_), false, [], []⟩ :: ⟨42, [27], [], [], noW (_), false, [], []⟩ :: ⟨43, [24, 28], [], [], noW (_), false, [], []⟩ :: ⟨44, [20, 29], [], [], noW (_), false, [], []⟩ :: ⟨45, [30], [], [], noW (_), false, [], []⟩ :: ⟨46, [], [], [], noW (Det undef), false, [], []⟩ :: ⟨47, [], [], [], noW (Det undef), false, [], []⟩ :: ⟨48, [], [], [], noW (Det undef), false, [], []⟩ :: ⟨49, [], [], [], noW (Det undef), false, [], []⟩ :: ⟨50, [], [], [], noW (Det undef), false, [], []⟩ :: ⟨51, [], [], [], noW (Det undef), false, [], []⟩ :: ⟨52, [], [], [], noW (Det undef), false, [], []⟩ :: ⟨53, [], [], [], noW (Det undef), false, [], []⟩ :: ⟨54, [], [], [], noW (Det undef), false, [], []⟩ :: ⟨55, [31, 40], [], [], noW (_), false, [], []⟩ :: ⟨56, [41], [], [], noW (_), false, [], []⟩ :: ⟨57, [], [], [], noW (Det undef), false, [], []⟩ :: ⟨58, [], [], [], noW (Det undef), false, [], []⟩ :: ⟨59, [], [], [], noW (Det undef), false, [], []⟩ :: ⟨60, [], [], [], noW (Det undef), false, [], []⟩ :: ⟨61, [], [], [], noW (Det undef), false, [], []⟩ :: ⟨62, [], [], [], noW (Det undef), false, [], []⟩ :: ⟨63, [], [], [], noW (Det undef), false, [], []⟩ :: ⟨64, [], [], [], noW (Det undef), false, [], []⟩ :: ⟨65, [], [], [], noW (Det undef), false, [], []⟩ :: ⟨66, [42, 51], [], [], noW (_), false, [], []⟩ :: [])) [] [0, 1] (⟨14, [], [], false, [], []⟩ :: ⟨15, [0], [], false, [], []⟩ :: ⟨16, [1], [], false, [], []⟩ :: ⟨17, [2], [], false, [], []⟩ :: ⟨18, [], [], false, [], []⟩ :: ⟨19, [4], [], false, [], []⟩ :: ⟨20, [5], [], false, [], []⟩ :: ⟨21, [6], [], false, [], []⟩ :: ⟨22, [3, 7], [], false, [], []⟩ :: ⟨23, [8], [], false, [], []⟩ :: ⟨24, [], [], false, [], []⟩ :: ⟨25, [10], [], false, [], []⟩ :: ⟨26, [11], [], false, [], []⟩ :: ⟨27, [12], [], false, [], []⟩ :: ⟨28, [], [], false, [], []⟩ :: ⟨29, [14], [], false, [], []⟩ :: ⟨30, [15], [], false, [], []⟩ :: ⟨31, [16], [], false, [], []⟩ :: ⟨32, [13, 17], [], false, [], []⟩ :: ⟨33, [9, 18], [], false, [], []⟩ :: ⟨34, [19], [], false, [], []⟩ :: ⟨35, [], [], false, [], []⟩ :: ⟨36, [21], [], false, [], []⟩ :: ⟨37, [22], [], false, [], []⟩ :: ⟨38, [23], [], false, [], []⟩ :: ⟨39, [], [], false, [], []⟩ :: ⟨40, [25], [], false, [], []⟩ :: ⟨41, [26], [], false, [], []⟩ :: ⟨42, [27], [], false, [], []⟩ :: ⟨43, [24, 28], [], false, [], []⟩ :: ⟨44, [20, 29], [], false, [], []⟩ :: ⟨45, [30], [], false, [], []⟩ :: ⟨46, [], [], false, [], []⟩ :: ⟨47, [], [], false, [], []⟩ :: ⟨48, [], [], false, [], []⟩ :: ⟨49, [], [], false, [], []⟩ :: ⟨50, [], [], false, [], []⟩ :: ⟨51, [], [], false, [], []⟩ :: ⟨52, [], [], false, [], []⟩ :: ⟨53, [], [], false, [], []⟩ :: ⟨54, [], [], false, [], []⟩ :: ⟨55, [31, 40], [], false, [], []⟩ :: ⟨56, [41], [], false, [], []⟩ :: ⟨57, [], [], false, [], []⟩ :: ⟨58, [], [], false, [], []⟩ :: ⟨59, [], [], false, [], []⟩ :: ⟨60, [], [], false, [], []⟩ :: ⟨61, [], [], false, [], []⟩ :: ⟨62, [], [], false, [], []⟩ :: ⟨63, [], [], false, [], []⟩ :: ⟨64, [], [], false, [], []⟩ :: ⟨65, [], [], false, [], []⟩ :: ⟨66, [42, 51], [], false, [], []⟩ :: []) ([] :: [] :: [] :: [] :: [] :: [] :: [] :: [] :: [] :: [] :: [] :: [] :: [] :: [] :: [] :: [] :: [] :: [] :: [] :: [] :: [] :: [] :: [] :: [] :: [] :: [] :: [] :: [] :: [] :: [] :: [] :: [] :: [] :: [] :: [] :: [] :: [] :: [] :: [] :: [] :: [] :: [] :: [] :: [] :: [] :: [] :: [] :: [] :: [] :: [] :: [] :: [] :: [] :: []) ([] :: [] :: [] :: [] :: [] :: [] :: [] :: [] :: [] :: [] :: [] :: [] :: [] :: [] :: [] :: [] :: [] :: [] :: [] :: [] :: [] :: [] :: [] :: [] :: [] :: [] :: [] :: [] :: [] :: [] :: [] :: [] :: [] :: [] :: [] :: [] :: [] :: [] :: [] :: [] :: [] :: [] :: [] :: [] :: [] :: [] :: [] :: [] :: [] :: [] :: [] :: [] :: [] :: []) tMixf (fun _ => by rfl) (fun _ => by rfl) (by kernel_rfl) (by kernel_rfl) (by rfl) (by rfl)
            (fun β => ⟨.p rfl (by intro X; exact op_move rfl),
            ⟨.p rfl (by intro X; rintro _ _ ⟨rfl, rfl⟩; exact op_nilCheck rfl),
            ⟨.p rfl (by intro X; rintro _ _ ⟨rfl, rfl⟩; exact op_fieldAddr (off := 0) rfl tF90_0f),
            ⟨.p rfl (by intro X; rintro _ _ ⟨rfl, rfl⟩; exact op_load1 rfl tO3f (Ent.app (Ent.app (Ent.fld hd1 0) X) _)),
            ⟨.p rfl (by intro X; exact op_move rfl),
            ⟨.p rfl (by intro X; rintro _ _ ⟨rfl, rfl⟩; exact op_nilCheck rfl),
            ⟨.p rfl (by intro X; rintro _ _ ⟨rfl, rfl⟩; exact op_fieldAddr (off := 0) rfl tF90_0f),
            ⟨.p rfl (by intro X; rintro _ _ ⟨rfl, rfl⟩; exact op_load1 rfl tO3f (Ent.app (Ent.app (Ent.fld hd2 0) X) _)),
            ⟨.p rfl (by intro X; rintro _ _ ⟨rfl, rfl⟩ _ _ ⟨rfl, rfl⟩; exact op_val (v' := .bool true) (by simp [h1]) (op_eql rfl rfl)),
            ⟨.p rfl (by intro X; rintro _ _ ⟨rfl, rfl⟩; exact op_move rfl),
            ⟨.w rfl rfl rfl (by rintro _ _ ⟨rfl, rfl⟩; rfl) (by intro X; exact op_move rfl),
            ⟨.w rfl rfl rfl (by rintro _ _ ⟨rfl, rfl⟩; rfl) (by intro X; rintro _ _ ⟨rfl, rfl⟩; exact op_nilCheck rfl),
            ⟨.w rfl rfl rfl (by rintro _ _ ⟨rfl, rfl⟩; rfl) (by intro X; rintro _ _ ⟨rfl, rfl⟩; exact op_fieldAddr (off := 2) rfl tF90_2f),
            ⟨.w rfl rfl rfl (by rintro _ _ ⟨rfl, rfl⟩; rfl) (by intro X; rintro _ _ ⟨rfl, rfl⟩; exact op_load1 rfl tO4f (Ent.app (Ent.app (Ent.fld hd1 2) X) _)),
            ⟨.w rfl rfl rfl (by rintro _ _ ⟨rfl, rfl⟩; rfl) (by intro X; exact op_move rfl),
            ⟨.w rfl rfl rfl (by rintro _ _ ⟨rfl, rfl⟩; rfl) (by intro X; rintro _ _ ⟨rfl, rfl⟩; exact op_nilCheck rfl),
            ⟨.w rfl rfl rfl (by rintro _ _ ⟨rfl, rfl⟩; rfl) (by intro X; rintro _ _ ⟨rfl, rfl⟩; exact op_fieldAddr (off := 2) rfl tF90_2f),
            ⟨.w rfl rfl rfl (by rintro _ _ ⟨rfl, rfl⟩; rfl) (by intro X; rintro _ _ ⟨rfl, rfl⟩; exact op_load1 rfl tO4f (Ent.app (Ent.app (Ent.fld hd2 2) X) _)),
            ⟨.w rfl rfl rfl (by rintro _ _ ⟨rfl, rfl⟩; rfl) (by intro X; rintro _ _ ⟨rfl, rfl⟩ _ _ ⟨rfl, rfl⟩; exact op_val (v' := .bool true) (by simp [h2]) (op_eqB rfl rfl Try.underlying4)),
            ⟨.p rfl (by intro X; rintro _ _ ⟨rfl, rfl⟩ _ _ ⟨rfl, rfl⟩; exact op_pick_t rfl rfl),
            ⟨.p rfl (by intro X; rintro _ _ ⟨rfl, rfl⟩; exact op_move rfl),
            ⟨.w rfl rfl rfl (by rintro _ _ ⟨rfl, rfl⟩; rfl) (by intro X; exact op_move rfl),
            ⟨.w rfl rfl rfl (by rintro _ _ ⟨rfl, rfl⟩; rfl) (by intro X; rintro _ _ ⟨rfl, rfl⟩; exact op_nilCheck rfl),
            ⟨.w rfl rfl rfl (by rintro _ _ ⟨rfl, rfl⟩; rfl) (by intro X; rintro _ _ ⟨rfl, rfl⟩; exact op_fieldAddr (off := 3) rfl tF90_3f),
            ⟨.w rfl rfl rfl (by rintro _ _ ⟨rfl, rfl⟩; rfl) (by intro X; rintro _ _ ⟨rfl, rfl⟩; exact op_load1 rfl tO4f (Ent.app (Ent.app (Ent.fld hd1 3) X) _)),
            ⟨.w rfl rfl rfl (by rintro _ _ ⟨rfl, rfl⟩; rfl) (by intro X; exact op_move rfl),
            ⟨.w rfl rfl rfl (by rintro _ _ ⟨rfl, rfl⟩; rfl) (by intro X; rintro _ _ ⟨rfl, rfl⟩; exact op_nilCheck rfl),
            ⟨.w rfl rfl rfl (by rintro _ _ ⟨rfl, rfl⟩; rfl) (by intro X; rintro _ _ ⟨rfl, rfl⟩; exact op_fieldAddr (off := 3) rfl tF90_3f),
            ⟨.w rfl rfl rfl (by rintro _ _ ⟨rfl, rfl⟩; rfl) (by intro X; rintro _ _ ⟨rfl, rfl⟩; exact op_load1 rfl tO4f (Ent.app (Ent.app (Ent.fld hd2 3) X) _)),
            ⟨.w rfl rfl rfl (by rintro _ _ ⟨rfl, rfl⟩; rfl) (by intro X; rintro _ _ ⟨rfl, rfl⟩ _ _ ⟨rfl, rfl⟩; exact op_val (v' := .bool false) (by simp [h3]) (op_eqB rfl rfl Try.underlying4)),
            ⟨.p rfl (by intro X; rintro _ _ ⟨rfl, rfl⟩ _ _ ⟨rfl, rfl⟩; exact op_pick_t rfl rfl),
            ⟨.p rfl (by intro X; rintro _ _ ⟨rfl, rfl⟩; exact op_move rfl),
            ⟨.u rfl rfl rfl (by rintro _ _ ⟨rfl, rfl⟩; exact congrArg (offB true) (by rfl : _ = Value.bool false)) ⟨rfl, rfl⟩ rfl rfl,
            ⟨.u rfl rfl rfl (by rintro _ _ ⟨rfl, rfl⟩; exact congrArg (offB true) (by rfl : _ = Value.bool false)) ⟨rfl, rfl⟩ rfl rfl,
            ⟨.u rfl rfl rfl (by rintro _ _ ⟨rfl, rfl⟩; exact congrArg (offB true) (by rfl : _ = Value.bool false)) ⟨rfl, rfl⟩ rfl rfl,
            ⟨.u rfl rfl rfl (by rintro _ _ ⟨rfl, rfl⟩; exact congrArg (offB true) (by rfl : _ = Value.bool false)) ⟨rfl, rfl⟩ rfl rfl,
            ⟨.u rfl rfl rfl (by rintro _ _ ⟨rfl, rfl⟩; exact congrArg (offB true) (by rfl : _ = Value.bool false)) ⟨rfl, rfl⟩ rfl rfl,
            ⟨.u rfl rfl rfl (by rintro _ _ ⟨rfl, rfl⟩; exact congrArg (offB true) (by rfl : _ = Value.bool false)) ⟨rfl, rfl⟩ rfl rfl,
            ⟨.u rfl rfl rfl (by rintro _ _ ⟨rfl, rfl⟩; exact congrArg (offB true) (by rfl : _ = Value.bool false)) ⟨rfl, rfl⟩ rfl rfl,
            ⟨.u rfl rfl rfl (by rintro _ _ ⟨rfl, rfl⟩; exact congrArg (offB true) (by rfl : _ = Value.bool false)) ⟨rfl, rfl⟩ rfl rfl,
            ⟨.u rfl rfl rfl (by rintro _ _ ⟨rfl, rfl⟩; exact congrArg (offB true) (by rfl : _ = Value.bool false)) ⟨rfl, rfl⟩ rfl rfl,
            ⟨.p rfl (by intro X; rintro _ _ ⟨rfl, rfl⟩ _ _ ⟨rfl, rfl⟩; exact op_pick_f rfl rfl),
            ⟨.p rfl (by intro X; rintro _ _ ⟨rfl, rfl⟩; exact op_move rfl),
            ⟨.u rfl rfl rfl (by rintro _ _ ⟨rfl, rfl⟩; exact congrArg (offB true) (by rfl : _ = Value.bool false)) ⟨rfl, rfl⟩ rfl rfl,
            ⟨.u rfl rfl rfl (by rintro _ _ ⟨rfl, rfl⟩; exact congrArg (offB true) (by rfl : _ = Value.bool false)) ⟨rfl, rfl⟩ rfl rfl,
            ⟨.u rfl rfl rfl (by rintro _ _ ⟨rfl, rfl⟩; exact congrArg (offB true) (by rfl : _ = Value.bool false)) ⟨rfl, rfl⟩ rfl rfl,
            ⟨.u rfl rfl rfl (by rintro _ _ ⟨rfl, rfl⟩; exact congrArg (offB true) (by rfl : _ = Value.bool false)) ⟨rfl, rfl⟩ rfl rfl,
            ⟨.u rfl rfl rfl (by rintro _ _ ⟨rfl, rfl⟩; exact congrArg (offB true) (by rfl : _ = Value.bool false)) ⟨rfl, rfl⟩ rfl rfl,
            ⟨.u rfl rfl rfl (by rintro _ _ ⟨rfl, rfl⟩; exact congrArg (offB true) (by rfl : _ = Value.bool false)) ⟨rfl, rfl⟩ rfl rfl,
            ⟨.u rfl rfl rfl (by rintro _ _ ⟨rfl, rfl⟩; exact congrArg (offB true) (by rfl : _ = Value.bool false)) ⟨rfl, rfl⟩ rfl rfl,
            ⟨.u rfl rfl rfl (by rintro _ _ ⟨rfl, rfl⟩; exact congrArg (offB true) (by rfl : _ = Value.bool false)) ⟨rfl, rfl⟩ rfl rfl,
            ⟨.u rfl rfl rfl (by rintro _ _ ⟨rfl, rfl⟩; exact congrArg (offB true) (by rfl : _ = Value.bool false)) ⟨rfl, rfl⟩ rfl rfl,
            ⟨.p rfl (by intro X; rintro _ _ ⟨rfl, rfl⟩ _ _ ⟨rfl, rfl⟩; exact op_pick_f rfl rfl),
            trivial⟩⟩⟩⟩⟩⟩⟩⟩⟩⟩⟩⟩⟩⟩⟩⟩⟩⟩⟩⟩⟩⟩⟩⟩⟩⟩⟩⟩⟩⟩⟩⟩⟩⟩⟩⟩⟩⟩⟩⟩⟩⟩⟩⟩⟩⟩⟩⟩⟩⟩⟩⟩⟩)
            (fun β β' => ⟨fun _ => by rfl, ⟨fun _ => by rfl, ⟨fun _ => by rfl, ⟨fun _ => by rfl, ⟨fun _ => by rfl, ⟨fun _ => by rfl, ⟨fun _ => by rfl, ⟨fun _ => by rfl, ⟨fun _ => by rfl, ⟨fun _ => by rfl, ⟨fun _ => by rfl, ⟨fun _ => by rfl, ⟨fun _ => by rfl, ⟨fun _ => by rfl, ⟨fun _ => by rfl, ⟨fun _ => by rfl, ⟨fun _ => by rfl, ⟨fun _ => by rfl, ⟨fun _ => by rfl, ⟨fun _ => by rfl, ⟨fun _ => by rfl, ⟨fun _ => by rfl, ⟨fun _ => by rfl, ⟨fun _ => by rfl, ⟨fun _ => by rfl, ⟨fun _ => by rfl, ⟨fun _ => by rfl, ⟨fun _ => by rfl, ⟨fun _ => by rfl, ⟨fun _ => by rfl, ⟨fun _ => by rfl, ⟨fun _ => by rfl, ⟨fun _ => by rfl, ⟨fun _ => by rfl, ⟨fun _ => by rfl, ⟨fun _ => by rfl, ⟨fun _ => by rfl, ⟨fun _ => by rfl, ⟨fun _ => by rfl, ⟨fun _ => by rfl, ⟨fun _ => by rfl, ⟨fun _ => by rfl, ⟨fun _ => by rfl, ⟨fun _ => by rfl, ⟨fun _ => by rfl, ⟨fun _ => by rfl, ⟨fun _ => by rfl, ⟨fun _ => by rfl, ⟨fun _ => by rfl, ⟨fun _ => by rfl, ⟨fun _ => by rfl, ⟨fun _ => by rfl, ⟨fun _ => by rfl, trivial⟩⟩⟩⟩⟩⟩⟩⟩⟩⟩⟩⟩⟩⟩⟩⟩⟩⟩⟩⟩⟩⟩⟩⟩⟩⟩⟩⟩⟩⟩⟩⟩⟩⟩⟩⟩⟩⟩⟩⟩⟩⟩⟩⟩⟩⟩⟩⟩⟩⟩⟩⟩⟩) ?_
        intro β
        rintro _ _ ⟨rfl, rfl⟩ _ _ ⟨rfl, rfl⟩ _ _ ⟨rfl, rfl⟩ _ _ ⟨rfl, rfl⟩ _ _ ⟨rfl, rfl⟩ _ _ ⟨rfl, rfl⟩ _ _ ⟨rfl, rfl⟩ _ _ ⟨rfl, rfl⟩ _ _ ⟨rfl, rfl⟩ _ _ ⟨rfl, rfl⟩ _ _ ⟨rfl, rfl⟩ _ _ ⟨rfl, rfl⟩ _ _ ⟨rfl, rfl⟩ _ _ ⟨rfl, rfl⟩ _ _ ⟨rfl, rfl⟩ _ _ ⟨rfl, rfl⟩ _ _ ⟨rfl, rfl⟩ _ _ ⟨rfl, rfl⟩ _ _ ⟨rfl, rfl⟩ _ _ ⟨rfl, rfl⟩ _ _ ⟨rfl, rfl⟩ _ _ ⟨rfl, rfl⟩ _ _ ⟨rfl, rfl⟩ _ _ ⟨rfl, rfl⟩ _ _ ⟨rfl, rfl⟩ _ _ ⟨rfl, rfl⟩ _ _ ⟨rfl, rfl⟩ _ _ ⟨rfl, rfl⟩ _ _ ⟨rfl, rfl⟩ _ _ ⟨rfl, rfl⟩ _ _ ⟨rfl, rfl⟩ _ _ ⟨rfl, rfl⟩ _ _ ⟨rfl, rfl⟩ _ _ ⟨rfl, rfl⟩ _ _ ⟨rfl, rfl⟩ _ _ ⟨rfl, rfl⟩ _ _ ⟨rfl, rfl⟩ _ _ ⟨rfl, rfl⟩ _ _ ⟨rfl, rfl⟩ _ _ ⟨rfl, rfl⟩ _ _ ⟨rfl, rfl⟩ _ _ ⟨rfl, rfl⟩ _ _ ⟨rfl, rfl⟩ _ _ ⟨rfl, rfl⟩ _ _ ⟨rfl, rfl⟩ _ _ ⟨rfl, rfl⟩ _ _ ⟨rfl, rfl⟩ _ _ ⟨rfl, rfl⟩ _ _ ⟨rfl, rfl⟩ _ _ ⟨rfl, rfl⟩ _ _ ⟨rfl, rfl⟩ _ _ ⟨rfl, rfl⟩ _ _ ⟨rfl, rfl⟩
        refine wl_norm (e' := [(66, _)]) (.cons rfl (.nil _)) (by dsimp only [cond_false, cond_true, List.nil_append, List.cons_append]) ?_
        refine wl_det rfl rfl rfl (op_assign rfl) ?_
        refine wl_nil ?_
        refine st_tn ?_
        refine w_ret ?_
        refine st_ret (vs := [_]) [] Try.results22 ⟨rfl, trivial⟩ rfl ?_
        refine ⟨_, rfl, ?_⟩
        refine ⟨?_, rfl⟩
        simp only [retv]
        rw [dec_st]
        simp [h3]
    · -- h2-
      refine w_drawW (fun β => (⟨14, [], [], [], noW (_), false, [], []⟩ :: ⟨15, [0], [], [], noW (_), false, [], []⟩ :: ⟨16, [1], [], [], noW (_), false, [], []⟩ :: ⟨17, [2], [], [], noW (_), false, [], []⟩ :: ⟨18, [], [], [], noW (_), false, [], []⟩ :: ⟨19, [4], [], [], noW (_), false, [], []⟩ :: ⟨20, [5], [], [], noW (_), false, [], []⟩ :: ⟨21, [6], [], [], noW (_), false, [], []⟩ :: ⟨22, [3, 7], [], [], noW (_), false, [], []⟩ :: ⟨23, [8], [], [], noW (_), false, [], []⟩ :: ⟨24, [], [], [], noW (_), false, [], []⟩ :: ⟨25, [10], [], [], noW (_), false, [], []⟩ :: ⟨26, [11], [], [], noW (_), false, [], []⟩ :: ⟨27, [12], [], [], noW (_), false, [], []⟩ :: ⟨28, [], [], [], noW (_), false, [], []⟩ :: ⟨29, [14], [], [], noW (_), false, [], []⟩ :: ⟨30, [15], [], [], noW (_), false, [], []⟩ :: ⟨31, [16], [], [], noW (_), false, [], []⟩ :: ⟨32, [13, 17], [], [], noW (_), false, [], []⟩ :: ⟨33, [9, 18], [], [], noW (_), false, [], []⟩ :: ⟨34, [19], [], [], noW (_), false, [], []⟩ :: ⟨35, [], [], [], noW (Det undef), false, [], []⟩ :: ⟨36, [], [], [], noW (Det undef), false, [], []⟩ :: ⟨37, [], [], [], noW (Det undef), false, [], []⟩ :: ⟨38, [], [], [], noW (Det undef), false, [], []⟩ :: ⟨39, [], [], [], noW (Det undef), false, [], []⟩ :: ⟨40, [], [], [], noW (Det undef), false, [], []⟩ :: ⟨41, [], [], [], noW (Det undef), false, [], []⟩ :: ⟨42, [], [], [], noW (Det undef), false, [], []⟩ :: ⟨43, [], [], [], noW (Det undef), false, [], []⟩ :: ⟨44, [20, 29], [], [], noW (_), false, [], []⟩ :: ⟨45, [30], [], [], noW (_), false, [], []⟩ :: ⟨46, [], [], [], noW (Det undef), false, [], []⟩ :: ⟨47, [], [], [], noW (Det undef), false, [], []⟩ :: ⟨48, [], [], [], noW (Det undef), false, [], []⟩ :: ⟨49, [], [], [], noW (Det undef), false, [], []⟩ :: ⟨50, [], [], [], noW (Det undef), false, [], []⟩ :: ⟨51, [], [], [], noW (Det undef), false, [], []⟩ :: ⟨52, [], [], [], noW (Det undef), false, [], []⟩ :: ⟨53, [], [], [], noW (Det undef), false, [], []⟩ :: ⟨54, [], [], [], noW (Det undef), false, [], []⟩ :: ⟨55, [31, 40], [], [], noW (_), false, [], []⟩ :: ⟨56, [41], [], [], noW (_), false, [], []⟩ :: ⟨57, [], [], [], noW (Det undef), false, [], []⟩ :: ⟨58, [], [], [], noW (Det undef), false, [], []⟩ :: ⟨59, [], [], [], noW (Det undef), false, [], []⟩ :: ⟨60, [], [], [], noW (Det undef), false, [], []⟩ :: ⟨61, [], [], [], noW (Det undef), false, [], []⟩ :: ⟨62, [], [], [], noW (Det undef), false, [], []⟩ :: ⟨63, [], [], [], noW (Det undef), false, [], []⟩ :: ⟨64, [], [], [], noW (Det undef), false, [], []⟩ :: ⟨65, [], [], [], noW (Det undef), false, [], []⟩ :: ⟨66, [42, 51], [], [], noW (_), false, [], []⟩ :: [])) [] [0, 1] (⟨14, [], [], false, [], []⟩ :: ⟨15, [0], [], false, [], []⟩ :: ⟨16, [1], [], false, [], []⟩ :: ⟨17, [2], [], false, [], []⟩ :: ⟨18, [], [], false, [], []⟩ :: ⟨19, [4], [], false, [], []⟩ :: ⟨20, [5], [], false, [], []⟩ :: ⟨21, [6], [], false, [], []⟩ :: ⟨22, [3, 7], [], false, [], []⟩ :: ⟨23, [8], [], false, [], []⟩ :: ⟨24, [], [], false, [], []⟩ :: ⟨25, [10], [], false, [], []⟩ :: ⟨26, [11], [], false, [], []⟩ :: ⟨27, [12], [], false, [], []⟩ :: ⟨28, [], [], false, [], []⟩ :: ⟨29, [14], [], false, [], []⟩ :: ⟨30, [15], [], false, [], []⟩ :: ⟨31, [16], [], false, [], []⟩ :: ⟨32, [13, 17], [], false, [], []⟩ :: ⟨33, [9, 18], [], false, [], []⟩ :: ⟨34, [19], [], false, [], []⟩ :: ⟨35, [], [], false, [], []⟩ :: ⟨36, [], [], false, [], []⟩ :: ⟨37, [], [], false, [], []⟩ :: ⟨38, [], [], false, [], []⟩ :: ⟨39, [], [], false, [], []⟩ :: ⟨40, [], [], false, [], []⟩ :: ⟨41, [], [], false, [], []⟩ :: ⟨42, [], [], false, [], []⟩ :: ⟨43, [], [], false, [], []⟩ :: ⟨44, [20, 29], [], false, [], []⟩ :: ⟨45, [30], [], false, [], []⟩ :: ⟨46, [], [], false, [], []⟩ :: ⟨47, [], [], false, [], []⟩ :: ⟨48, [], [], false, [], []⟩ :: ⟨49, [], [], false, [], []⟩ :: ⟨50, [], [], false, [], []⟩ :: ⟨51, [], [], false, [], []⟩ :: ⟨52, [], [], false, [], []⟩ :: ⟨53, [], [], false, [], []⟩ :: ⟨54, [], [], false, [], []⟩ :: ⟨55, [31, 40], [], false, [], []⟩ :: ⟨56, [41], [], false, [], []⟩ :: ⟨57, [], [], false, [], []⟩ :: ⟨58, [], [], false, [], []⟩ :: ⟨59, [], [], false, [], []⟩ :: ⟨60, [], [], false, [], []⟩ :: ⟨61, [], [], false, [], []⟩ :: ⟨62, [], [], false, [], []⟩ :: ⟨63, [], [], false, [], []⟩ :: ⟨64, [], [], false, [], []⟩ :: ⟨65, [], [], false, [], []⟩ :: ⟨66, [42, 51], [], false, [], []⟩ :: []) ([] :: [] :: [] :: [] :: [] :: [] :: [] :: [] :: [] :: [] :: [] :: [] :: [] :: [] :: [] :: [] :: [] :: [] :: [] :: [] :: [] :: [] :: [] :: [] :: [] :: [] :: [] :: [] :: [] :: [] :: [] :: [] :: [] :: [] :: [] :: [] :: [] :: [] :: [] :: [] :: [] :: [] :: [] :: [] :: [] :: [] :: [] :: [] :: [] :: [] :: [] :: [] :: [] :: []) ([] :: [] :: [] :: [] :: [] :: [] :: [] :: [] :: [] :: [] :: [] :: [] :: [] :: [] :: [] :: [] :: [] :: [] :: [] :: [] :: [] :: [] :: [] :: [] :: [] :: [] :: [] :: [] :: [] :: [] :: [] :: [] :: [] :: [] :: [] :: [] :: [] :: [] :: [] :: [] :: [] :: [] :: [] :: [] :: [] :: [] :: [] :: [] :: [] :: [] :: [] :: [] :: [] :: []) tMixf (fun _ => by rfl) (fun _ => by rfl) (by kernel_rfl) (by kernel_rfl) (by rfl) (by rfl)
          (fun β => ⟨.p rfl (by intro X; exact op_move rfl),
          ⟨.p rfl (by intro X; rintro _ _ ⟨rfl, rfl⟩; exact op_nilCheck rfl),
          ⟨.p rfl (by intro X; rintro _ _ ⟨rfl, rfl⟩; exact op_fieldAddr (off := 0) rfl tF90_0f),
          ⟨.p rfl (by intro X; rintro _ _ ⟨rfl, rfl⟩; exact op_load1 rfl tO3f (Ent.app (Ent.app (Ent.fld hd1 0) X) _)),
          ⟨.p rfl (by intro X; exact op_move rfl),
          ⟨.p rfl (by intro X; rintro _ _ ⟨rfl, rfl⟩; exact op_nilCheck rfl),
          ⟨.p rfl (by intro X; rintro _ _ ⟨rfl, rfl⟩; exact op_fieldAddr (off := 0) rfl tF90_0f),
          ⟨.p rfl (by intro X; rintro _ _ ⟨rfl, rfl⟩; exact op_load1 rfl tO3f (Ent.app (Ent.app (Ent.fld hd2 0) X) _)),
          ⟨.p rfl (by intro X; rintro _ _ ⟨rfl, rfl⟩ _ _ ⟨rfl, rfl⟩; exact op_val (v' := .bool true) (by simp [h1]) (op_eql rfl rfl)),
          ⟨.p rfl (by intro X; rintro _ _ ⟨rfl, rfl⟩; exact op_move rfl),
          ⟨.w rfl rfl rfl (by rintro _ _ ⟨rfl, rfl⟩; rfl) (by intro X; exact op_move rfl),
          ⟨.w rfl rfl rfl (by rintro _ _ ⟨rfl, rfl⟩; rfl) (by intro X; rintro _ _ ⟨rfl, rfl⟩; exact op_nilCheck rfl),
          ⟨.w rfl rfl rfl (by rintro _ _ ⟨rfl, rfl⟩; rfl) (by intro X; rintro _ _ ⟨rfl, rfl⟩; exact op_fieldAddr (off := 2) rfl tF90_2f),
          ⟨.w rfl rfl rfl (by rintro _ _ ⟨rfl, rfl⟩; rfl) (by intro X; rintro _ _ ⟨rfl, rfl⟩; exact op_load1 rfl tO4f (Ent.app (Ent.app (Ent.fld hd1 2) X) _)),
          ⟨.w rfl rfl rfl (by rintro _ _ ⟨rfl, rfl⟩; rfl) (by intro X; exact op_move rfl),
          ⟨.w rfl rfl rfl (by rintro _ _ ⟨rfl, rfl⟩; rfl) (by intro X; rintro _ _ ⟨rfl, rfl⟩; exact op_nilCheck rfl),
          ⟨.w rfl rfl rfl (by rintro _ _ ⟨rfl, rfl⟩; rfl) (by intro X; rintro _ _ ⟨rfl, rfl⟩; exact op_fieldAddr (off := 2) rfl tF90_2f),
          ⟨.w rfl rfl rfl (by rintro _ _ ⟨rfl, rfl⟩; rfl) (by intro X; rintro _ _ ⟨rfl, rfl⟩; exact op_load1 rfl tO4f (Ent.app (Ent.app (Ent.fld hd2 2) X) _)),
          ⟨.w rfl rfl rfl (by rintro _ _ ⟨rfl, rfl⟩; rfl) (by intro X; rintro _ _ ⟨rfl, rfl⟩ _ _ ⟨rfl, rfl⟩; exact op_val (v' := .bool false) (by simp [h2]) (op_eqB rfl rfl Try.underlying4)),
          ⟨.p rfl (by intro X; rintro _ _ ⟨rfl, rfl⟩ _ _ ⟨rfl, rfl⟩; exact op_pick_t rfl rfl),
          ⟨.p rfl (by intro X; rintro _ _ ⟨rfl, rfl⟩; exact op_move rfl),
          ⟨.u rfl rfl rfl (by rintro _ _ ⟨rfl, rfl⟩; exact congrArg (offB true) (by rfl : _ = Value.bool false)) ⟨rfl, rfl⟩ rfl rfl,
          ⟨.u rfl rfl rfl (by rintro _ _ ⟨rfl, rfl⟩; exact congrArg (offB true) (by rfl : _ = Value.bool false)) ⟨rfl, rfl⟩ rfl rfl,
          ⟨.u rfl rfl rfl (by rintro _ _ ⟨rfl, rfl⟩; exact congrArg (offB true) (by rfl : _ = Value.bool false)) ⟨rfl, rfl⟩ rfl rfl,
          ⟨.u rfl rfl rfl (by rintro _ _ ⟨rfl, rfl⟩; exact congrArg (offB true) (by rfl : _ = Value.bool false)) ⟨rfl, rfl⟩ rfl rfl,
          ⟨.u rfl rfl rfl (by rintro _ _ ⟨rfl, rfl⟩; exact congrArg (offB true) (by rfl : _ = Value.bool false)) ⟨rfl, rfl⟩ rfl rfl,
          ⟨.u rfl rfl rfl (by rintro _ _ ⟨rfl, rfl⟩; exact congrArg (offB true) (by rfl : _ = Value.bool false)) ⟨rfl, rfl⟩ rfl rfl,
          ⟨.u rfl rfl rfl (by rintro _ _ ⟨rfl, rfl⟩; exact congrArg (offB true) (by rfl : _ = Value.bool false)) ⟨rfl, rfl⟩ rfl rfl,
          ⟨.u rfl rfl rfl (by rintro _ _ ⟨rfl, rfl⟩; exact congrArg (offB true) (by rfl : _ = Value.bool false)) ⟨rfl, rfl⟩ rfl rfl,
          ⟨.u rfl rfl rfl (by rintro _ _ ⟨rfl, rfl⟩; exact congrArg (offB true) (by rfl : _ = Value.bool false)) ⟨rfl, rfl⟩ rfl rfl,
          ⟨.p rfl (by intro X; rintro _ _ ⟨rfl, rfl⟩ _ _ ⟨rfl, rfl⟩; exact op_pick_f rfl rfl),
          ⟨.p rfl (by intro X; rintro _ _ ⟨rfl, rfl⟩; exact op_move rfl),
          ⟨.u rfl rfl rfl (by rintro _ _ ⟨rfl, rfl⟩; exact congrArg (offB true) (by rfl : _ = Value.bool false)) ⟨rfl, rfl⟩ rfl rfl,
          ⟨.u rfl rfl rfl (by rintro _ _ ⟨rfl, rfl⟩; exact congrArg (offB true) (by rfl : _ = Value.bool false)) ⟨rfl, rfl⟩ rfl rfl,
          ⟨.u rfl rfl rfl (by rintro _ _ ⟨rfl, rfl⟩; exact congrArg (offB true) (by rfl : _ = Value.bool false)) ⟨rfl, rfl⟩ rfl rfl,
          ⟨.u rfl rfl rfl (by rintro _ _ ⟨rfl, rfl⟩; exact congrArg (offB true) (by rfl : _ = Value.bool false)) ⟨rfl, rfl⟩ rfl rfl,
          ⟨.u rfl rfl rfl (by rintro _ _ ⟨rfl, rfl⟩; exact congrArg (offB true) (by rfl : _ = Value.bool false)) ⟨rfl, rfl⟩ rfl rfl,
          ⟨.u rfl rfl rfl (by rintro _ _ ⟨rfl, rfl⟩; exact congrArg (offB true) (by rfl : _ = Value.bool false)) ⟨rfl, rfl⟩ rfl rfl,
          ⟨.u rfl rfl rfl (by rintro _ _ ⟨rfl, rfl⟩; exact congrArg (offB true) (by rfl : _ = Value.bool false)) ⟨rfl, rfl⟩ rfl rfl,
          ⟨.u rfl rfl rfl (by rintro _ _ ⟨rfl, rfl⟩; exact congrArg (offB true) (by rfl : _ = Value.bool false)) ⟨rfl, rfl⟩ rfl rfl,
          ⟨.u rfl rfl rfl (by rintro _ _ ⟨rfl, rfl⟩; exact congrArg (offB true) (by rfl : _ = Value.bool false)) ⟨rfl, rfl⟩ rfl rfl,
          ⟨.p rfl (by intro X; rintro _ _ ⟨rfl, rfl⟩ _ _ ⟨rfl, rfl⟩; exact op_pick_f rfl rfl),
          ⟨.p rfl (by intro X; rintro _ _ ⟨rfl, rfl⟩; exact op_move rfl),
          ⟨.u rfl rfl rfl (by rintro _ _ ⟨rfl, rfl⟩; exact congrArg (offB true) (by rfl : _ = Value.bool false)) ⟨rfl, rfl⟩ rfl rfl,
          ⟨.u rfl rfl rfl (by rintro _ _ ⟨rfl, rfl⟩; exact congrArg (offB true) (by rfl : _ = Value.bool false)) ⟨rfl, rfl⟩ rfl rfl,
          ⟨.u rfl rfl rfl (by rintro _ _ ⟨rfl, rfl⟩; exact congrArg (offB true) (by rfl : _ = Value.bool false)) ⟨rfl, rfl⟩ rfl rfl,
          ⟨.u rfl rfl rfl (by rintro _ _ ⟨rfl, rfl⟩; exact congrArg (offB true) (by rfl : _ = Value.bool false)) ⟨rfl, rfl⟩ rfl rfl,
          ⟨.u rfl rfl rfl (by rintro _ _ ⟨rfl, rfl⟩; exact congrArg (offB true) (by rfl : _ = Value.bool false)) ⟨rfl, rfl⟩ rfl rfl,
          ⟨.u rfl rfl rfl (by rintro _ _ ⟨rfl, rfl⟩; exact congrArg (offB true) (by rfl : _ = Value.bool false)) ⟨rfl, rfl⟩ rfl rfl,
          ⟨.u rfl rfl rfl (by rintro _ _ ⟨rfl, rfl⟩; exact congrArg (offB true) (by rfl : _ = Value.bool false)) ⟨rfl, rfl⟩ rfl rfl,
          ⟨.u rfl rfl rfl (by rintro _ _ ⟨rfl, rfl⟩; exact congrArg (offB true) (by rfl : _ = Value.bool false)) ⟨rfl, rfl⟩ rfl rfl,
          ⟨.u rfl rfl rfl (by rintro _ _ ⟨rfl, rfl⟩; exact congrArg (offB true) (by rfl : _ = Value.bool false)) ⟨rfl, rfl⟩ rfl rfl,
          ⟨.p rfl (by intro X; rintro _ _ ⟨rfl, rfl⟩ _ _ ⟨rfl, rfl⟩; exact op_pick_f rfl rfl),
          trivial⟩⟩⟩⟩⟩⟩⟩⟩⟩⟩⟩⟩⟩⟩⟩⟩⟩⟩⟩⟩⟩⟩⟩⟩⟩⟩⟩⟩⟩⟩⟩⟩⟩⟩⟩⟩⟩⟩⟩⟩⟩⟩⟩⟩⟩⟩⟩⟩⟩⟩⟩⟩⟩)
          (fun β β' => ⟨fun _ => by rfl, ⟨fun _ => by rfl, ⟨fun _ => by rfl, ⟨fun _ => by rfl, ⟨fun _ => by rfl, ⟨fun _ => by rfl, ⟨fun _ => by rfl, ⟨fun _ => by rfl, ⟨fun _ => by rfl, ⟨fun _ => by rfl, ⟨fun _ => by rfl, ⟨fun _ => by rfl, ⟨fun _ => by rfl, ⟨fun _ => by rfl, ⟨fun _ => by rfl, ⟨fun _ => by rfl, ⟨fun _ => by rfl, ⟨fun _ => by rfl, ⟨fun _ => by rfl, ⟨fun _ => by rfl, ⟨fun _ => by rfl, ⟨fun _ => by rfl, ⟨fun _ => by rfl, ⟨fun _ => by rfl, ⟨fun _ => by rfl, ⟨fun _ => by rfl, ⟨fun _ => by rfl, ⟨fun _ => by rfl, ⟨fun _ => by rfl, ⟨fun _ => by rfl, ⟨fun _ => by rfl, ⟨fun _ => by rfl, ⟨fun _ => by rfl, ⟨fun _ => by rfl, ⟨fun _ => by rfl, ⟨fun _ => by rfl, ⟨fun _ => by rfl, ⟨fun _ => by rfl, ⟨fun _ => by rfl, ⟨fun _ => by rfl, ⟨fun _ => by rfl, ⟨fun _ => by rfl, ⟨fun _ => by rfl, ⟨fun _ => by rfl, ⟨fun _ => by rfl, ⟨fun _ => by rfl, ⟨fun _ => by rfl, ⟨fun _ => by rfl, ⟨fun _ => by rfl, ⟨fun _ => by rfl, ⟨fun _ => by rfl, ⟨fun _ => by rfl, ⟨fun _ => by rfl, trivial⟩⟩⟩⟩⟩⟩⟩⟩⟩⟩⟩⟩⟩⟩⟩⟩⟩⟩⟩⟩⟩⟩⟩⟩⟩⟩⟩⟩⟩⟩⟩⟩⟩⟩⟩⟩⟩⟩⟩⟩⟩⟩⟩⟩⟩⟩⟩⟩⟩⟩⟩⟩⟩) ?_
      intro β
      rintro _ _ ⟨rfl, rfl⟩ _ _ ⟨rfl, rfl⟩ _ _ ⟨rfl, rfl⟩ _ _ ⟨rfl, rfl⟩ _ _ ⟨rfl, rfl⟩ _ _ ⟨rfl, rfl⟩ _ _ ⟨rfl, rfl⟩ _ _ ⟨rfl, rfl⟩ _ _ ⟨rfl, rfl⟩ _ _ ⟨rfl, rfl⟩ _ _ ⟨rfl, rfl⟩ _ _ ⟨rfl, rfl⟩ _ _ ⟨rfl, rfl⟩ _ _ ⟨rfl, rfl⟩ _ _ ⟨rfl, rfl⟩ _ _ ⟨rfl, rfl⟩ _ _ ⟨rfl, rfl⟩ _ _ ⟨rfl, rfl⟩ _ _ ⟨rfl, rfl⟩ _ _ ⟨rfl, rfl⟩ _ _ ⟨rfl, rfl⟩ _ _ ⟨rfl, rfl⟩ _ _ ⟨rfl, rfl⟩ _ _ ⟨rfl, rfl⟩ _ _ ⟨rfl, rfl⟩ _ _ ⟨rfl, rfl⟩ _ _ ⟨rfl, rfl⟩ _ _ ⟨rfl, rfl⟩ _ _ ⟨rfl, rfl⟩ _ _ ⟨rfl, rfl⟩ _ _ ⟨rfl, rfl⟩ _ _ ⟨rfl, rfl⟩ _ _ ⟨rfl, rfl⟩ _ _ ⟨rfl, rfl⟩ _ _ ⟨rfl, rfl⟩ _ _ ⟨rfl, rfl⟩ _ _ ⟨rfl, rfl⟩ _ _ ⟨rfl, rfl⟩ _ _ ⟨rfl, rfl⟩ _ _ ⟨rfl, rfl⟩ _ _ ⟨rfl, rfl⟩ _ _ ⟨rfl, rfl⟩ _ _ ⟨rfl, rfl⟩ _ _ ⟨rfl, rfl⟩ _ _ ⟨rfl, rfl⟩ _ _ ⟨rfl, rfl⟩ _ _ ⟨rfl, rfl⟩ _ _ ⟨rfl, rfl⟩ _ _ ⟨rfl, rfl⟩ _ _ ⟨rfl, rfl⟩ _ _ ⟨rfl, rfl⟩ _ _ ⟨rfl, rfl⟩ _ _ ⟨rfl, rfl⟩
      refine wl_norm (e' := [(66, _)]) (.cons rfl (.nil _)) (by dsimp only [cond_false, cond_true, List.nil_append, List.cons_append]) ?_
      refine wl_det rfl rfl rfl (op_assign rfl) ?_
      refine wl_nil ?_
      refine st_tn ?_
      refine w_ret ?_
      refine st_ret (vs := [_]) [] Try.results22 ⟨rfl, trivial⟩ rfl ?_
      refine ⟨_, rfl, ?_⟩
      refine ⟨?_, rfl⟩
      simp only [retv]
      rw [dec_st]
      simp [h2]
  · -- h1-
    refine w_drawW (fun β => (⟨14, [], [], [], noW (_), false, [], []⟩ :: ⟨15, [0], [], [], noW (_), false, [], []⟩ :: ⟨16, [1], [], [], noW (_), false, [], []⟩ :: ⟨17, [2], [], [], noW (_), false, [], []⟩ :: ⟨18, [], [], [], noW (_), false, [], []⟩ :: ⟨19, [4], [], [], noW (_), false, [], []⟩ :: ⟨20, [5], [], [], noW (_), false, [], []⟩ :: ⟨21, [6], [], [], noW (_), false, [], []⟩ :: ⟨22, [3, 7], [], [], noW (_), false, [], []⟩ :: ⟨23, [8], [], [], noW (_), false, [], []⟩ :: ⟨24, [], [], [], noW (Det undef), false, [], []⟩ :: ⟨25, [], [], [], noW (Det undef), false, [], []⟩ :: ⟨26, [], [], [], noW (Det undef), false, [], []⟩ :: ⟨27, [], [], [], noW (Det undef), false, [], []⟩ :: ⟨28, [], [], [], noW (Det undef), false, [], []⟩ :: ⟨29, [], [], [], noW (Det undef), false, [], []⟩ :: ⟨30, [], [], [], noW (Det undef), false, [], []⟩ :: ⟨31, [], [], [], noW (Det undef), false, [], []⟩ :: ⟨32, [], [], [], noW (Det undef), false, [], []⟩ :: ⟨33, [9, 18], [], [], noW (_), false, [], []⟩ :: ⟨34, [19], [], [], noW (_), false, [], []⟩ :: ⟨35, [], [], [], noW (Det undef), false, [], []⟩ :: ⟨36, [], [], [], noW (Det undef), false, [], []⟩ :: ⟨37, [], [], [], noW (Det undef), false, [], []⟩ :: ⟨38, [], [], [], noW (Det undef), false, [], []⟩ :: ⟨39, [], [], [], noW (Det undef), false, [], []⟩ :: ⟨40, [], [], [], noW (Det undef), false, [], []⟩ :: ⟨41, [], [], [], noW (Det undef), false, [], []⟩ :: ⟨42, [], [], [], noW (Det undef), false, [], []⟩ :: ⟨43, [], [], [], noW (Det undef), false, [], []⟩ :: ⟨44, [20, 29], [], [], noW (_), false, [], []⟩ :: ⟨45, [30], [], [], noW (_), false, [], []⟩ :: ⟨46, [], [], [], noW (Det undef), false, [], []⟩ :: ⟨47, [], [], [], noW (Det undef), false, [], []⟩ :: ⟨48, [], [], [], noW (Det undef), false, [], []⟩ :: ⟨49, [], [], [], noW (Det undef), false, [], []⟩ :: ⟨50, [], [], [], noW (Det undef), false, [], []⟩ :: ⟨51, [], [], [], noW (Det undef), false, [], []⟩ :: ⟨52, [], [], [], noW (Det undef), false, [], []⟩ :: ⟨53, [], [], [], noW (Det undef), false, [], []⟩ :: ⟨54, [], [], [], noW (Det undef), false, [], []⟩ :: ⟨55, [31, 40], [], [], noW (_), false, [], []⟩ :: ⟨56, [41], [], [], noW (_), false, [], []⟩ :: ⟨57, [], [], [], noW (Det undef), false, [], []⟩ :: ⟨58, [], [], [], noW (Det undef), false, [], []⟩ :: ⟨59, [], [], [], noW (Det undef), false, [], []⟩ :: ⟨60, [], [], [], noW (Det undef), false, [], []⟩ :: ⟨61, [], [], [], noW (Det undef), false, [], []⟩ :: ⟨62, [], [], [], noW (Det undef), false, [], []⟩ :: ⟨63, [], [], [], noW (Det undef), false, [], []⟩ :: ⟨64, [], [], [], noW (Det undef), false, [], []⟩ :: ⟨65, [], [], [], noW (Det undef), false, [], []⟩ :: ⟨66, [42, 51], [], [], noW (_), false, [], []⟩ :: [])) [] [0, 1] (⟨14, [], [], false, [], []⟩ :: ⟨15, [0], [], false, [], []⟩ :: ⟨16, [1], [], false, [], []⟩ :: ⟨17, [2], [], false, [], []⟩ :: ⟨18, [], [], false, [], []⟩ :: ⟨19, [4], [], false, [], []⟩ :: ⟨20, [5], [], false, [], []⟩ :: ⟨21, [6], [], false, [], []⟩ :: ⟨22, [3, 7], [], false, [], []⟩ :: ⟨23, [8], [], false, [], []⟩ :: ⟨24, [], [], false, [], []⟩ :: ⟨25, [], [], false, [], []⟩ :: ⟨26, [], [], false, [], []⟩ :: ⟨27, [], [], false, [], []⟩ :: ⟨28, [], [], false, [], []⟩ :: ⟨29, [], [], false, [], []⟩ :: ⟨30, [], [], false, [], []⟩ :: ⟨31, [], [], false, [], []⟩ :: ⟨32, [], [], false, [], []⟩ :: ⟨33, [9, 18], [], false, [], []⟩ :: ⟨34, [19], [], false, [], []⟩ :: ⟨35, [], [], false, [], []⟩ :: ⟨36, [], [], false, [], []⟩ :: ⟨37, [], [], false, [], []⟩ :: ⟨38, [], [], false, [], []⟩ :: ⟨39, [], [], false, [], []⟩ :: ⟨40, [], [], false, [], []⟩ :: ⟨41, [], [], false, [], []⟩ :: ⟨42, [], [], false, [], []⟩ :: ⟨43, [], [], false, [], []⟩ :: ⟨44, [20, 29], [], false, [], []⟩ :: ⟨45, [30], [], false, [], []⟩ :: ⟨46, [], [], false, [], []⟩ :: ⟨47, [], [], false, [], []⟩ :: ⟨48, [], [], false, [], []⟩ :: ⟨49, [], [], false, [], []⟩ :: ⟨50, [], [], false, [], []⟩ :: ⟨51, [], [], false, [], []⟩ :: ⟨52, [], [], false, [], []⟩ :: ⟨53, [], [], false, [], []⟩ :: ⟨54, [], [], false, [], []⟩ :: ⟨55, [31, 40], [], false, [], []⟩ :: ⟨56, [41], [], false, [], []⟩ :: ⟨57, [], [], false, [], []⟩ :: ⟨58, [], [], false, [], []⟩ :: ⟨59, [], [], false, [], []⟩ :: ⟨60, [], [], false, [], []⟩ :: ⟨61, [], [], false, [], []⟩ :: ⟨62, [], [], false, [], []⟩ :: ⟨63, [], [], false, [], []⟩ :: ⟨64, [], [], false, [], []⟩ :: ⟨65, [], [], false, [], []⟩ :: ⟨66, [42, 51], [], false, [], []⟩ :: []) ([] :: [] :: [] :: [] :: [] :: [] :: [] :: [] :: [] :: [] :: [] :: [] :: [] :: [] :: [] :: [] :: [] :: [] :: [] :: [] :: [] :: [] :: [] :: [] :: [] :: [] :: [] :: [] :: [] :: [] :: [] :: [] :: [] :: [] :: [] :: [] :: [] :: [] :: [] :: [] :: [] :: [] :: [] :: [] :: [] :: [] :: [] :: [] :: [] :: [] :: [] :: [] :: [] :: []) ([] :: [] :: [] :: [] :: [] :: [] :: [] :: [] :: [] :: [] :: [] :: [] :: [] :: [] :: [] :: [] :: [] :: [] :: [] :: [] :: [] :: [] :: [] :: [] :: [] :: [] :: [] :: [] :: [] :: [] :: [] :: [] :: [] :: [] :: [] :: [] :: [] :: [] :: [] :: [] :: [] :: [] :: [] :: [] :: [] :: [] :: [] :: [] :: [] :: [] :: [] :: [] :: [] :: []) tMixf (fun _ => by rfl) (fun _ => by rfl) (by kernel_rfl) (by kernel_rfl) (by rfl) (by rfl)
        (fun β => ⟨.p rfl (by intro X; exact op_move rfl),
        ⟨.p rfl (by intro X; rintro _ _ ⟨rfl, rfl⟩; exact op_nilCheck rfl),
        ⟨.p rfl (by intro X; rintro _ _ ⟨rfl, rfl⟩; exact op_fieldAddr (off := 0) rfl tF90_0f),
        ⟨.p rfl (by intro X; rintro _ _ ⟨rfl, rfl⟩; exact op_load1 rfl tO3f (Ent.app (Ent.app (Ent.fld hd1 0) X) _)),
        ⟨.p rfl (by intro X; exact op_move rfl),
        ⟨.p rfl (by intro X; rintro _ _ ⟨rfl, rfl⟩; exact op_nilCheck rfl),
        ⟨.p rfl (by intro X; rintro _ _ ⟨rfl, rfl⟩; exact op_fieldAddr (off := 0) rfl tF90_0f),
        ⟨.p rfl (by intro X; rintro _ _ ⟨rfl, rfl⟩; exact op_load1 rfl tO3f (Ent.app (Ent.app (Ent.fld hd2 0) X) _)),
        ⟨.p rfl (by intro X; rintro _ _ ⟨rfl, rfl⟩ _ _ ⟨rfl, rfl⟩; exact op_val (v' := .bool false) (by simp [h1]) (op_eql rfl rfl)),
        ⟨.p rfl (by intro X; rintro _ _ ⟨rfl, rfl⟩; exact op_move rfl),
        ⟨.u rfl rfl rfl (by rintro _ _ ⟨rfl, rfl⟩; exact congrArg (offB true) (by rfl : _ = Value.bool false)) ⟨rfl, rfl⟩ rfl rfl,
        ⟨.u rfl rfl rfl (by rintro _ _ ⟨rfl, rfl⟩; exact congrArg (offB true) (by rfl : _ = Value.bool false)) ⟨rfl, rfl⟩ rfl rfl,
        ⟨.u rfl rfl rfl (by rintro _ _ ⟨rfl, rfl⟩; exact congrArg (offB true) (by rfl : _ = Value.bool false)) ⟨rfl, rfl⟩ rfl rfl,
        ⟨.u rfl rfl rfl (by rintro _ _ ⟨rfl, rfl⟩; exact congrArg (offB true) (by rfl : _ = Value.bool false)) ⟨rfl, rfl⟩ rfl rfl,
        ⟨.u rfl rfl rfl (by rintro _ _ ⟨rfl, rfl⟩; exact congrArg (offB true) (by rfl : _ = Value.bool false)) ⟨rfl, rfl⟩ rfl rfl,
        ⟨.u rfl rfl rfl (by rintro _ _ ⟨rfl, rfl⟩; exact congrArg (offB true) (by rfl : _ = Value.bool false)) ⟨rfl, rfl⟩ rfl rfl,
        ⟨.u rfl rfl rfl (by rintro _ _ ⟨rfl, rfl⟩; exact congrArg (offB true) (by rfl : _ = Value.bool false)) ⟨rfl, rfl⟩ rfl rfl,
        ⟨.u rfl rfl rfl (by rintro _ _ ⟨rfl, rfl⟩; exact congrArg (offB true) (by rfl : _ = Value.bool false)) ⟨rfl, rfl⟩ rfl rfl,
        ⟨.u rfl rfl rfl (by rintro _ _ ⟨rfl, rfl⟩; exact congrArg (offB true) (by rfl : _ = Value.bool false)) ⟨rfl, rfl⟩ rfl rfl,
        ⟨.p rfl (by intro X; rintro _ _ ⟨rfl, rfl⟩ _ _ ⟨rfl, rfl⟩; exact op_pick_f rfl rfl),
        ⟨.p rfl (by intro X; rintro _ _ ⟨rfl, rfl⟩; exact op_move rfl),
        ⟨.u rfl rfl rfl (by rintro _ _ ⟨rfl, rfl⟩; exact congrArg (offB true) (by rfl : _ = Value.bool false)) ⟨rfl, rfl⟩ rfl rfl,
        ⟨.u rfl rfl rfl (by rintro _ _ ⟨rfl, rfl⟩; exact congrArg (offB true) (by rfl : _ = Value.bool false)) ⟨rfl, rfl⟩ rfl rfl,
        ⟨.u rfl rfl rfl (by rintro _ _ ⟨rfl, rfl⟩; exact congrArg (offB true) (by rfl : _ = Value.bool false)) ⟨rfl, rfl⟩ rfl rfl,
        ⟨.u rfl rfl rfl (by rintro _ _ ⟨rfl, rfl⟩; exact congrArg (offB true) (by rfl : _ = Value.bool false)) ⟨rfl, rfl⟩ rfl rfl,
        ⟨.u rfl rfl rfl (by rintro _ _ ⟨rfl, rfl⟩; exact congrArg (offB true) (by rfl : _ = Value.bool false)) ⟨rfl, rfl⟩ rfl rfl,
        ⟨.u rfl rfl rfl (by rintro _ _ ⟨rfl, rfl⟩; exact congrArg (offB true) (by rfl : _ = Value.bool false)) ⟨rfl, rfl⟩ rfl rfl,
        ⟨.u rfl rfl rfl (by rintro _ _ ⟨rfl, rfl⟩; exact congrArg (offB true) (by rfl : _ = Value.bool false)) ⟨rfl, rfl⟩ rfl rfl,
        ⟨.u rfl rfl rfl (by rintro _ _ ⟨rfl, rfl⟩; exact congrArg (offB true) (by rfl : _ = Value.bool false)) ⟨rfl, rfl⟩ rfl rfl,
        ⟨.u rfl rfl rfl (by rintro _ _ ⟨rfl, rfl⟩; exact congrArg (offB true) (by rfl : _ = Value.bool false)) ⟨rfl, rfl⟩ rfl rfl,
        ⟨.p rfl (by intro X; rintro _ _ ⟨rfl, rfl⟩ _ _ ⟨rfl, rfl⟩; exact op_pick_f rfl rfl),
        ⟨.p rfl (by intro X; rintro _ _ ⟨rfl, rfl⟩; exact op_move rfl),
        ⟨.u rfl rfl rfl (by rintro _ _ ⟨rfl, rfl⟩; exact congrArg (offB true) (by rfl : _ = Value.bool false)) ⟨rfl, rfl⟩ rfl rfl,
        ⟨.u rfl rfl rfl (by rintro _ _ ⟨rfl, rfl⟩; exact congrArg (offB true) (by rfl : _ = Value.bool false)) ⟨rfl, rfl⟩ rfl rfl,
        ⟨.u rfl rfl rfl (by rintro _ _ ⟨rfl, rfl⟩; exact congrArg (offB true) (by rfl : _ = Value.bool false)) ⟨rfl, rfl⟩ rfl rfl,
        ⟨.u rfl rfl rfl (by rintro _ _ ⟨rfl, rfl⟩; exact congrArg (offB true) (by rfl : _ = Value.bool false)) ⟨rfl, rfl⟩ rfl rfl,
        ⟨.u rfl rfl rfl (by rintro _ _ ⟨rfl, rfl⟩; exact congrArg (offB true) (by rfl : _ = Value.bool false)) ⟨rfl, rfl⟩ rfl rfl,
        ⟨.u rfl rfl rfl (by rintro _ _ ⟨rfl, rfl⟩; exact congrArg (offB true) (by rfl : _ = Value.bool false)) ⟨rfl, rfl⟩ rfl rfl,
        ⟨.u rfl rfl rfl (by rintro _ _ ⟨rfl, rfl⟩; exact congrArg (offB true) (by rfl : _ = Value.bool false)) ⟨rfl, rfl⟩ rfl rfl,
        ⟨.u rfl rfl rfl (by rintro _ _ ⟨rfl, rfl⟩; exact congrArg (offB true) (by rfl : _ = Value.bool false)) ⟨rfl, rfl⟩ rfl rfl,
        ⟨.u rfl rfl rfl (by rintro _ _ ⟨rfl, rfl⟩; exact congrArg (offB true) (by rfl : _ = Value.bool false)) ⟨rfl, rfl⟩ rfl rfl,
        ⟨.p rfl (by intro X; rintro _ _ ⟨rfl, rfl⟩ _ _ ⟨rfl, rfl⟩; exact op_pick_f rfl rfl),
        ⟨.p rfl (by intro X; rintro _ _ ⟨rfl, rfl⟩; exact op_move rfl),
        ⟨.u rfl rfl rfl (by rintro _ _ ⟨rfl, rfl⟩; exact congrArg (offB true) (by rfl : _ = Value.bool false)) ⟨rfl, rfl⟩ rfl rfl,
        ⟨.u rfl rfl rfl (by rintro _ _ ⟨rfl, rfl⟩; exact congrArg (offB true) (by rfl : _ = Value.bool false)) ⟨rfl, rfl⟩ rfl rfl,
        ⟨.u rfl rfl rfl (by rintro _ _ ⟨rfl, rfl⟩; exact congrArg (offB true) (by rfl : _ = Value.bool false)) ⟨rfl, rfl⟩ rfl rfl,
        ⟨.u rfl rfl rfl (by rintro _ _ ⟨rfl, rfl⟩; exact congrArg (offB true) (by rfl : _ = Value.bool false)) ⟨rfl, rfl⟩ rfl rfl,
        ⟨.u rfl rfl rfl (by rintro _ _ ⟨rfl, rfl⟩; exact congrArg (offB true) (by rfl : _ = Value.bool false)) ⟨rfl, rfl⟩ rfl rfl,
        ⟨.u rfl rfl rfl (by rintro _ _ ⟨rfl, rfl⟩; exact congrArg (offB true) (by rfl : _ = Value.bool false)) ⟨rfl, rfl⟩ rfl rfl,
        ⟨.u rfl rfl rfl (by rintro _ _ ⟨rfl, rfl⟩; exact congrArg (offB true) (by rfl : _ = Value.bool false)) ⟨rfl, rfl⟩ rfl rfl,
        ⟨.u rfl rfl rfl (by rintro _ _ ⟨rfl, rfl⟩; exact congrArg (offB true) (by rfl : _ = Value.bool false)) ⟨rfl, rfl⟩ rfl rfl,
        ⟨.u rfl rfl rfl (by rintro _ _ ⟨rfl, rfl⟩; exact congrArg (offB true) (by rfl : _ = Value.bool false)) ⟨rfl, rfl⟩ rfl rfl,
        ⟨.p rfl (by intro X; rintro _ _ ⟨rfl, rfl⟩ _ _ ⟨rfl, rfl⟩; exact op_pick_f rfl rfl),
        trivial⟩⟩⟩⟩⟩⟩⟩⟩⟩⟩⟩⟩⟩⟩⟩⟩⟩⟩⟩⟩⟩⟩⟩⟩⟩⟩⟩⟩⟩⟩⟩⟩⟩⟩⟩⟩⟩⟩⟩⟩⟩⟩⟩⟩⟩⟩⟩⟩⟩⟩⟩⟩⟩)
        (fun β β' => ⟨fun _ => by rfl, ⟨fun _ => by rfl, ⟨fun _ => by rfl, ⟨fun _ => by rfl, ⟨fun _ => by rfl, ⟨fun _ => by rfl, ⟨fun _ => by rfl, ⟨fun _ => by rfl, ⟨fun _ => by rfl, ⟨fun _ => by rfl, ⟨fun _ => by rfl, ⟨fun _ => by rfl, ⟨fun _ => by rfl, ⟨fun _ => by rfl, ⟨fun _ => by rfl, ⟨fun _ => by rfl, ⟨fun _ => by rfl, ⟨fun _ => by rfl, ⟨fun _ => by rfl, ⟨fun _ => by rfl, ⟨fun _ => by rfl, ⟨fun _ => by rfl, ⟨fun _ => by rfl, ⟨fun _ => by rfl, ⟨fun _ => by rfl, ⟨fun _ => by rfl, ⟨fun _ => by rfl, ⟨fun _ => by rfl, ⟨fun _ => by rfl, ⟨fun _ => by rfl, ⟨fun _ => by rfl, ⟨fun _ => by rfl, ⟨fun _ => by rfl, ⟨fun _ => by rfl, ⟨fun _ => by rfl, ⟨fun _ => by rfl, ⟨fun _ => by rfl, ⟨fun _ => by rfl, ⟨fun _ => by rfl, ⟨fun _ => by rfl, ⟨fun _ => by rfl, ⟨fun _ => by rfl, ⟨fun _ => by rfl, ⟨fun _ => by rfl, ⟨fun _ => by rfl, ⟨fun _ => by rfl, ⟨fun _ => by rfl, ⟨fun _ => by rfl, ⟨fun _ => by rfl, ⟨fun _ => by rfl, ⟨fun _ => by rfl, ⟨fun _ => by rfl, ⟨fun _ => by rfl, trivial⟩⟩⟩⟩⟩⟩⟩⟩⟩⟩⟩⟩⟩⟩⟩⟩⟩⟩⟩⟩⟩⟩⟩⟩⟩⟩⟩⟩⟩⟩⟩⟩⟩⟩⟩⟩⟩⟩⟩⟩⟩⟩⟩⟩⟩⟩⟩⟩⟩⟩⟩⟩⟩) ?_
    intro β
    rintro _ _ ⟨rfl, rfl⟩ _ _ ⟨rfl, rfl⟩ _ _ ⟨rfl, rfl⟩ _ _ ⟨rfl, rfl⟩ _ _ ⟨rfl, rfl⟩ _ _ ⟨rfl, rfl⟩ _ _ ⟨rfl, rfl⟩ _ _ ⟨rfl, rfl⟩ _ _ ⟨rfl, rfl⟩ _ _ ⟨rfl, rfl⟩ _ _ ⟨rfl, rfl⟩ _ _ ⟨rfl, rfl⟩ _ _ ⟨rfl, rfl⟩ _ _ ⟨rfl, rfl⟩ _ _ ⟨rfl, rfl⟩ _ _ ⟨rfl, rfl⟩ _ _ ⟨rfl, rfl⟩ _ _ ⟨rfl, rfl⟩ _ _ ⟨rfl, rfl⟩ _ _ ⟨rfl, rfl⟩ _ _ ⟨rfl, rfl⟩ _ _ ⟨rfl, rfl⟩ _ _ ⟨rfl, rfl⟩ _ _ ⟨rfl, rfl⟩ _ _ ⟨rfl, rfl⟩ _ _ ⟨rfl, rfl⟩ _ _ ⟨rfl, rfl⟩ _ _ ⟨rfl, rfl⟩ _ _ ⟨rfl, rfl⟩ _ _ ⟨rfl, rfl⟩ _ _ ⟨rfl, rfl⟩ _ _ ⟨rfl, rfl⟩ _ _ ⟨rfl, rfl⟩ _ _ ⟨rfl, rfl⟩ _ _ ⟨rfl, rfl⟩ _ _ ⟨rfl, rfl⟩ _ _ ⟨rfl, rfl⟩ _ _ ⟨rfl, rfl⟩ _ _ ⟨rfl, rfl⟩ _ _ ⟨rfl, rfl⟩ _ _ ⟨rfl, rfl⟩ _ _ ⟨rfl, rfl⟩ _ _ ⟨rfl, rfl⟩ _ _ ⟨rfl, rfl⟩ _ _ ⟨rfl, rfl⟩ _ _ ⟨rfl, rfl⟩ _ _ ⟨rfl, rfl⟩ _ _ ⟨rfl, rfl⟩ _ _ ⟨rfl, rfl⟩ _ _ ⟨rfl, rfl⟩ _ _ ⟨rfl, rfl⟩ _ _ ⟨rfl, rfl⟩ _ _ ⟨rfl, rfl⟩
    refine wl_norm (e' := [(66, _)]) (.cons rfl (.nil _)) (by dsimp only [cond_false, cond_true, List.nil_append, List.cons_append]) ?_
    refine wl_det rfl rfl rfl (op_assign rfl) ?_
    refine wl_nil ?_
    refine st_tn ?_
    refine w_ret ?_
    refine st_ret (vs := [_]) [] Try.results22 ⟨rfl, trivial⟩ rfl ?_
    refine ⟨_, rfl, ?_⟩
    refine ⟨?_, rfl⟩
    simp only [retv]
    rw [dec_st]
    simp [h1]

set_option maxHeartbeats 400000 in
set_option maxRecDepth 100000 in
theorem clone_any {σ : World} {F : List Res} {b m : Nat} {s : St} {l : Files} (lab1 lab2 : Nat) (hd : Ent σ F (At ⟨b, 0, none⟩ (cellD s m))) (hm' : Mr σ F KL encF (.map (some m)) l) :
    FnT Try.prog σ F 20 [.pointer (some ⟨b, 0, none⟩)] [] (fun u ρ => ∃ bb mm, u = .pointer (some ⟨bb, 0, none⟩) ∧ ρ = [(lab1, cel bb (cellD s mm) 90), (lab2, mp KL encF mm l)]) := by
  refine fn_of 15 Try.func20 rfl Try.ntmps20 rfl ?_
  refine w_seq ?_
  refine w_region ?_
  refine wl_det rfl rfl rfl (op_assign rfl) ?_
  refine wl_nil ?_
  refine st_tn ?_
  refine w_seq ?_
  refine w_seq ?_
  refine w_region ?_
  refine wl_det rfl rfl rfl (op_move rfl) ?_
  refine wl_det rfl rfl rfl (op_val (v' := .bool false) (by simp) (op_eqPtr rfl Try.underlying22)) ?_
  refine wl_nil ?_
  refine st_tn ?_
  refine w_cond_f (rfl) ?_
  refine w_skip ?_
  refine st_tn ?_
  refine w_seq ?_
  refine w_region ?_
  refine wl_det rfl rfl rfl (op_move rfl) ?_
  refine wl_det rfl rfl rfl (op_nilCheck rfl) ?_
  refine wl_det rfl rfl rfl (op_loadA rfl tA90f (Ent.app hd _) (Nat.le_of_ble_eq_true rfl)) ?_
  refine wl_op [] rfl rfl rfl rfl (op_alloc (l := 3) tN90f) ?_
  rintro _ _ ⟨b3, rfl, rfl⟩
  refine wl_op0 [3] rfl rfl rfl (op_store rfl rfl tZ90f (by rfl) (by rfl) (by exact Nat.le_of_ble_eq_true rfl)) ?_
  rintro _ _ ⟨rfl, rfl⟩
  refine wl_nil ?_
  refine st_tn ?_
  refine w_seq ?_
  refine w_region ?_
  refine wl_det rfl rfl rfl (op_move rfl) ?_
  refine wl_det rfl rfl rfl (op_nilCheck rfl) ?_
  refine wl_det rfl rfl rfl (op_fieldAddr (off := 1) rfl tF90_1f) ?_
  refine wl_det rfl rfl rfl (op_load1 rfl tO88f (Ent.app (Ent.fld hd 1) _)) ?_
  refine wl_op [] rfl rfl rfl rfl (op_fn Try.func54 rfl rfl rfl (mclone_any 13 (Ent.app hm' _))) ?_
  rintro _ _ ⟨mm13, rfl, rfl⟩
  refine wl_det rfl rfl rfl (op_fieldAddr (off := 1) rfl tF90_1f) ?_
  refine wl_op0 [3] rfl rfl rfl (op_store rfl rfl tZ88f (by rfl) (by rfl) (by exact Nat.le_of_ble_eq_true rfl)) ?_
  rintro _ _ ⟨rfl, rfl⟩
  refine wl_nil ?_
  refine st_tn ?_
  refine w_seq ?_
  refine w_region ?_
  refine wl_det rfl rfl rfl (op_assign rfl) ?_
  refine wl_nil ?_
  refine st_tn ?_
  refine w_ret ?_
  refine st_ret (vs := [_]) [3, 13] Try.results20 ⟨rfl, trivial⟩ rfl ?_
  refine ⟨[(lab1, _), (lab2, _)], rfl, ?_⟩
  exact ⟨_, _, rfl, rfl⟩

def newS (n : Int) : St := ⟨n, [], false, false, 0⟩
theorem good_new {n : Int} (h : 0 ≤ n ∧ n ≤ 67108864) : DskM.Good (newS n) := ⟨List.Pairwise.nil, by simp [newS], by simp [newS], by simp [newS], by simp [newS, used]; omega, h.2, Int.le_refl _, by show (0 : Int) ≤ _; omega⟩
set_option maxHeartbeats 400000 in
set_option maxRecDepth 100000 in
theorem new_ok {σ : World} {F : List Res} (n : Int) (lab1 lab2 : Nat) (hn : 0 ≤ n ∧ n ≤ 67108864) :
    FnT Try.prog σ F 32 [.int .i64 n] [] (fun u ρ => ∃ b m, u = .tuple #[.pointer (some ⟨b, 0, none⟩), .int .i64 0] ∧ ρ = [(lab1, cel b (cellD (newS n) m) 90), (lab2, mp KL encF m [])]) := by
  refine fn_of 14 Try.func32 rfl Try.ntmps32 rfl ?_
  refine w_seq ?_
  refine w_region ?_
  refine wl_det rfl rfl rfl (op_assign rfl) ?_
  refine wl_det rfl rfl rfl (op_assign rfl) ?_
  refine wl_nil ?_
  refine st_tn ?_
  refine w_seq ?_
  refine w_seq ?_
  refine w_region ?_
  refine wl_det rfl rfl rfl (op_move rfl) ?_
  refine wl_det rfl rfl rfl (op_val (v' := .bool false) (by simp; omega) (op_lss rfl rfl)) ?_
  refine wl_det rfl rfl rfl (op_move rfl) ?_
  refine wl_wanted_det rfl rfl rfl rfl rfl rfl rfl (op_move rfl) ?_
  refine wl_wanted_det rfl rfl rfl rfl rfl rfl rfl (op_val (v' := .bool false) (by simp; omega) (op_gtr rfl rfl)) ?_
  refine wl_det rfl rfl rfl (op_pick_f rfl rfl) ?_
  refine wl_nil ?_
  refine st_tn ?_
  refine w_cond_f (rfl) ?_
  refine w_skip ?_
  refine st_tn ?_
  refine w_seq ?_
  refine w_region ?_
  refine wl_det rfl rfl rfl (op_move rfl) ?_
  refine wl_op [] rfl rfl rfl rfl (op_makeMap (kt := KL) (encV := encF) (lab := 11)) ?_
  rintro _ _ ⟨b11, rfl, rfl⟩
  refine wl_det rfl rfl rfl (op_build tB90f rfl rfl) ?_
  refine wl_op [] rfl rfl rfl rfl (op_box (T := 90) (l := 13) rfl) ?_
  rintro _ _ ⟨b13, rfl, rfl⟩
  refine wl_det rfl rfl rfl (op_assign rfl) ?_
  refine wl_det rfl rfl rfl (op_assign rfl) ?_
  refine wl_nil ?_
  refine st_tn ?_
  refine w_ret ?_
  refine st_ret (vs := [_, _]) [13, 11] Try.results32 ⟨rfl, ⟨rfl, trivial⟩⟩ rfl ?_
  refine ⟨[(lab1, _), (lab2, _)], rfl, ?_⟩
  exact ⟨_, _, rfl, rfl⟩

set_option maxHeartbeats 400000 in
set_option maxRecDepth 100000 in
theorem new_err {σ : World} {F : List Res} (n : Int) (hn : ¬ (0 ≤ n ∧ n ≤ 67108864)) :
    FnT Try.prog σ F 32 [.int .i64 n] [] (fun u ρ => u = .tuple #[.pointer none, .int .i64 2] ∧ ρ = []) := by
  refine fn_of 14 Try.func32 rfl Try.ntmps32 rfl ?_
  refine w_seq ?_
  refine w_region ?_
  refine wl_det rfl rfl rfl (op_assign rfl) ?_
  refine wl_det rfl rfl rfl (op_assign rfl) ?_
  refine wl_nil ?_
  refine st_tn ?_
  refine w_seq ?_
  refine w_seq ?_
  refine w_cutL [(9, .bool (decide (n < 0 ∨ n > 67108864)))] [0] [] rfl (fun K' hK => ?_) ?_
  · -- cut r1
    refine w_region ?_
    refine wl_det rfl rfl rfl (op_move rfl) ?_
    refine wl_det rfl rfl rfl (op_lss rfl rfl) ?_
    refine wl_det rfl rfl rfl (op_move rfl) ?_
    refine wl_gsplit (t := 6) rfl (fun hg6 => ?_) (fun hg6 => ?_)
    · -- 6 is True
      refine wl_unwanted rfl rfl rfl rfl rfl rfl rfl rfl ?_
      refine wl_unwanted rfl rfl rfl rfl rfl rfl rfl rfl ?_
      refine wl_det rfl rfl rfl (op_pick_t rfl rfl) ?_
      refine wl_nil ?_
      refine st_tn ?_
      exact cut_done1 [] hK rfl (by first | (rw [decide_eq_decide]; omega) | (symm; rw [decide_eq_false_iff_not]; omega) | (symm; rw [decide_eq_true_iff]; omega) | (simp; done) | (simp; omega) | (simp [*]; done) | (simp [*]; omega)) (by rfl) rfl rfl
    · -- 6 is False
      refine wl_wanted_det rfl rfl rfl rfl rfl rfl rfl (op_move rfl) ?_
      refine wl_wanted_det rfl rfl rfl rfl rfl rfl rfl (op_gtr rfl rfl) ?_
      refine wl_det rfl rfl rfl (op_pick_f rfl rfl) ?_
      refine wl_nil ?_
      refine st_tn ?_
      exact cut_done1 [] hK rfl (by first | (rw [decide_eq_decide]; omega) | (symm; rw [decide_eq_false_iff_not]; omega) | (symm; rw [decide_eq_true_iff]; omega) | (simp; done) | (simp; omega) | (simp [*]; done) | (simp [*]; omega)) (by rfl) rfl rfl
  · -- behind r1
    show W _ _ _ _ _ [(9, _), (0, _)] [] _
    refine w_cond_d rfl (fun hc9 => ?_) (fun hc9 => ?_)
    · -- c9.t
      refine w_seq ?_
      refine w_region ?_
      refine wl_det rfl rfl rfl (op_assign rfl) ?_
      refine wl_det rfl rfl rfl (op_assign rfl) ?_
      refine wl_nil ?_
      refine st_tn ?_
      refine w_ret ?_
      refine st_tr ?_
      refine st_ret (vs := [_, _]) [] Try.results32 ⟨rfl, ⟨rfl, trivial⟩⟩ rfl ?_
      refine ⟨_, rfl, ?_⟩
      exact ⟨rfl, rfl⟩
    · -- c9.f
      exact absurd hc9 (by omega)

section
variable {σ : World} {F : List Res} {b m : Nat} {s s' : St} {l : Files}
theorem app_to {n d : Bs} {e : Int} (h : appO s n d = (e, s')) (hg : DskM.Good s) (hp : l.Perm s.fs) (hn : n.length ≤ maxLen) (hdl : d.length ≤ 1099511627776) :
    FnT Try.prog σ F 44 [.pointer (some ⟨b, 0, none⟩), .string (str n), .string (str d)] [(601, cel b (cellD s m) 90), (602, mp KL encF m l)] (fun u ρ => ∃ l', l'.Perm s'.fs ∧ u = .int .i64 e ∧ ρ = [(601, cel b (cellD s' m) 90), (602, mp KL encF m l')]) := by
  have := append_any (σ := σ) (F := F) (b := b) (m := m) n d hg hp hn hdl
  rw [h] at this; exact this
theorem syn_to {n : Bs} {e : Int} (h : synO s n = (e, s')) (hg : DskM.Good s) (hp : l.Perm s.fs) (hn : n.length ≤ maxLen) :
    FnT Try.prog σ F 48 [.pointer (some ⟨b, 0, none⟩), .string (str n)] [(601, cel b (cellD s m) 90), (602, mp KL encF m l)] (fun u ρ => ∃ l', l'.Perm s'.fs ∧ u = .int .i64 e ∧ ρ = [(601, cel b (cellD s' m) 90), (602, mp KL encF m l')]) := by
  have := sync_any (σ := σ) (F := F) (b := b) (m := m) n hg hp hn
  rw [h] at this; exact this
theorem rem_to {n : Bs} {e : Int} (h : remO s n = (e, s')) (hg : DskM.Good s) (hp : l.Perm s.fs) (hn : n.length ≤ maxLen) :
    FnT Try.prog σ F 58 [.pointer (some ⟨b, 0, none⟩), .string (str n)] [(601, cel b (cellD s m) 90), (602, mp KL encF m l)] (fun u ρ => ∃ l', l'.Perm s'.fs ∧ u = .int .i64 e ∧ ρ = [(601, cel b (cellD s' m) 90), (602, mp KL encF m l')]) := by
  have := remove_any (σ := σ) (F := F) (b := b) (m := m) n hg hp hn
  rw [h] at this; exact this
theorem sta_to {a : Option Addr} {c : Nat} {sc : List Int} (h : staO s sc = s') (hg : DskM.Good s) (hp : l.Perm s.fs) (hsc : Sl σ F SL.encZ 1 (.slice a sc.length c) sc) :
    FnT Try.prog σ F 38 [.pointer (some ⟨b, 0, none⟩), .slice a sc.length c] [(601, cel b (cellD s m) 90), (602, mp KL encF m l)] (fun u ρ => ∃ l', l'.Perm s'.fs ∧ u = .tuple #[] ∧ ρ = [(601, cel b (cellD s' m) 90), (602, mp KL encF m l')]) := by
  have := start_any (σ := σ) (F := F) (b := b) (m := m) hg hp hsc
  rw [h] at this; exact this
theorem read_to {n v : Bs} {e : Int} (h : readO s n false = (v, e)) (hg : DskM.Good s) (hp : l.Perm s.fs) (hn : n.length ≤ maxLen) (hd : Ent σ F (At ⟨b, 0, none⟩ (cellD s m))) (hm' : Mr σ F KL encF (.map (some m)) l) :
    FnT Try.prog σ F 71 [.pointer (some ⟨b, 0, none⟩), .string (str n)] [] (fun u ρ => u = .tuple #[.string (str v), .int .i64 e] ∧ ρ = []) := by
  have := read_any (σ := σ) (F := F) (b := b) (m := m) n hg hp hn hd hm'
  rw [h] at this; exact this
theorem list_to {k : List Bs} (h : listO s = k) (lab : Nat) (hg : DskM.Good s) (hp : l.Perm s.fs) (hd : Ent σ F (At ⟨b, 0, none⟩ (cellD s m))) (hm' : Mr σ F KL encF (.map (some m)) l) :
    FnT Try.prog σ F 51 [.pointer (some ⟨b, 0, none⟩)] [] (fun u ρ => ∃ a c, u = .slice a k.length c ∧ ρ = [(lab, slW 9 encT 1 (.slice a k.length c) k)]) := by
  have := list_any (σ := σ) (F := F) (b := b) (m := m) lab hg hp hd hm'
  rw [h] at this; exact this
end
section
variable {P : Program} {σ : World} {n : Nat} {F : List Res} {e : Env} {R A B : RL} {ops : Array Oper} {rest : List Oper} {Q : Exit → Act → World → Prop} {K : Act → World → Prop}
theorem wl_openM {κ ν : Type} {kt : KT κ} {encV : ν → Value} {b : Nat} {l : List (κ × ν)} (lab : Nat) (ht : takeL R [lab] = some ([(lab, mp kt encV b l)], B)) (k : ∀ bs clock, WfM l bs clock → WL P σ n ops Q K rest e ((lab, mpE kt encV b l bs clock) :: B) F) : WL P σ n ops Q K rest e R F := fun a w hr ho => by
  have h1 : SL.Own σ (mp kt encV b l :: (rs B ++ F)) w := by simpa [rs] using ho.take ht
  obtain ⟨h2, h3, h4, ll, hl, hm, hd⟩ := h1
  cases ll with
  | nil => simp at hl
  | cons p ll =>
    obtain ⟨q, m⟩ := p
    simp only [List.map_cons, List.cons.injEq] at hl
    obtain ⟨rfl, hl⟩ := hl
    obtain ⟨⟨bs, clock, hmE⟩, hsub⟩ := hm (_, m) (List.mem_cons_self)
    refine k bs clock hmE.2 a w hr ⟨h2, h3, h4, (mpE kt encV b l bs clock, m) :: ll, by simp [rs, hl], fun p hp => ?_, ?_⟩
    · rcases List.mem_cons.1 hp with rfl | hp
      · exact ⟨hmE, hsub⟩
      · exact hm p (List.mem_cons_of_mem _ hp)
    · rw [List.pairwise_cons] at hd ⊢; exact hd
theorem wl_wk (lab : Nat) {r : Res} (r' : Res) (ht : takeL R [lab] = some ([(lab, r)], B)) (hi : ∀ m, r m → r' m) (k : WL P σ n ops Q K rest e ((lab, r') :: B) F) : WL P σ n ops Q K rest e R F := fun a w hr ho => by
  have h1 := ho.take ht
  exact k a w hr (Own.imp (F := rs B ++ F) (by simpa [rs] using h1) hi)
end
end Go.Proofs.Ytcbigmgakdanjaa
