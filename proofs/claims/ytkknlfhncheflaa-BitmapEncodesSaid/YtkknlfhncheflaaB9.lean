/- Contracts of bitmap.And, Or, AndNot, Subset, Not, Add. Conditions: none. -/
import Derived.Test.YtkknlfhncheflaaB8
import Derived.Test.YtkknlfhncheflaaSl8
namespace Go.Proofs.Ytkknlfhncheflaa
open Go Go.SL Go.RowKit Go.BitM
set_option linter.unusedVariables false
set_option linter.unusedSimpArgs false
theorem tA26i : aggB Try.prog 26 1 = true := by kernel_rfl
theorem tN26i : (Try.prog.info? 26).bind (·.zero) = some (Value.agg #[Value.slice none 0 0]) := by kernel_rfl
theorem tO24i : oneB Try.prog 24 = true := by kernel_rfl
theorem tS24i : sliceB Try.prog 24 58 2 = true := by kernel_rfl
theorem tV26_0i : fieldVB Try.prog 26 0 0 24 = true := by kernel_rfl
theorem tZ26i : (Try.prog.info? 26).map (·.size) = some 1 := by kernel_rfl

-- ENC 37 encRun
set_option maxHeartbeats 400000 in
set_option maxRecDepth 100000 in
theorem and1 {σ : World} {F : List Res} (x y : Bool) : FnT Try.prog σ F 58 [.bool x, .bool y] [] (fun u ρ => u = .bool (x && y) ∧ ρ = []) := by
  refine fn_of 9 Try.func58 rfl Try.ntmps58 rfl ?_
  refine w_seq ?_
  refine w_region ?_
  refine wl_det rfl rfl rfl (op_assign rfl) ?_
  refine wl_nil ?_
  refine st_tn ?_
  refine w_seq ?_
  refine w_region ?_
  refine wl_det rfl rfl rfl (op_move rfl) ?_
  refine wl_det rfl rfl rfl (op_move rfl) ?_
  refine wl_gsplitB (t := 6) rfl (fun hg6 => ?_) (fun hg6 => ?_)
  · -- 6 is True
    refine wl_wanted_det rfl rfl rfl rfl rfl rfl rfl (op_move rfl) ?_
    refine wl_det rfl rfl rfl (op_pick_t rfl rfl) ?_
    refine wl_det rfl rfl rfl (op_assign rfl) ?_
    refine wl_nil ?_
    refine st_tn ?_
    refine w_ret ?_
    refine st_ret (vs := [_]) [] Try.results58 ⟨rfl, trivial⟩ rfl ?_
    refine ⟨_, rfl, ?_⟩
    refine ⟨?_, rfl⟩; simp [retv, *]
  · -- 6 is False
    refine wl_unwanted rfl rfl rfl rfl rfl rfl rfl rfl ?_
    refine wl_det rfl rfl rfl (op_pick_f rfl rfl) ?_
    refine wl_det rfl rfl rfl (op_assign rfl) ?_
    refine wl_nil ?_
    refine st_tn ?_
    refine w_ret ?_
    refine st_ret (vs := [_]) [] Try.results58 ⟨rfl, trivial⟩ rfl ?_
    refine ⟨_, rfl, ?_⟩
    refine ⟨?_, rfl⟩; simp [retv, *]

set_option maxHeartbeats 400000 in
set_option maxRecDepth 100000 in
theorem or1 {σ : World} {F : List Res} (x y : Bool) : FnT Try.prog σ F 59 [.bool x, .bool y] [] (fun u ρ => u = .bool (x || y) ∧ ρ = []) := by
  refine fn_of 9 Try.func59 rfl Try.ntmps59 rfl ?_
  refine w_seq ?_
  refine w_region ?_
  refine wl_det rfl rfl rfl (op_assign rfl) ?_
  refine wl_nil ?_
  refine st_tn ?_
  refine w_seq ?_
  refine w_region ?_
  refine wl_det rfl rfl rfl (op_move rfl) ?_
  refine wl_det rfl rfl rfl (op_move rfl) ?_
  refine wl_gsplitB (t := 6) rfl (fun hg6 => ?_) (fun hg6 => ?_)
  · -- 6 is True
    refine wl_unwanted rfl rfl rfl rfl rfl rfl rfl rfl ?_
    refine wl_det rfl rfl rfl (op_pick_t rfl rfl) ?_
    refine wl_det rfl rfl rfl (op_assign rfl) ?_
    refine wl_nil ?_
    refine st_tn ?_
    refine w_ret ?_
    refine st_ret (vs := [_]) [] Try.results59 ⟨rfl, trivial⟩ rfl ?_
    refine ⟨_, rfl, ?_⟩
    refine ⟨?_, rfl⟩; simp [retv, *]
  · -- 6 is False
    refine wl_wanted_det rfl rfl rfl rfl rfl rfl rfl (op_move rfl) ?_
    refine wl_det rfl rfl rfl (op_pick_f rfl rfl) ?_
    refine wl_det rfl rfl rfl (op_assign rfl) ?_
    refine wl_nil ?_
    refine st_tn ?_
    refine w_ret ?_
    refine st_ret (vs := [_]) [] Try.results59 ⟨rfl, trivial⟩ rfl ?_
    refine ⟨_, rfl, ?_⟩
    refine ⟨?_, rfl⟩; simp [retv, *]

set_option maxHeartbeats 400000 in
set_option maxRecDepth 100000 in
theorem andnot1 {σ : World} {F : List Res} (x y : Bool) : FnT Try.prog σ F 60 [.bool x, .bool y] [] (fun u ρ => u = .bool (x && !y) ∧ ρ = []) := by
  refine fn_of 10 Try.func60 rfl Try.ntmps60 rfl ?_
  refine w_seq ?_
  refine w_region ?_
  refine wl_det rfl rfl rfl (op_assign rfl) ?_
  refine wl_nil ?_
  refine st_tn ?_
  refine w_seq ?_
  refine w_region ?_
  refine wl_det rfl rfl rfl (op_move rfl) ?_
  refine wl_det rfl rfl rfl (op_move rfl) ?_
  refine wl_gsplitB (t := 6) rfl (fun hg6 => ?_) (fun hg6 => ?_)
  · -- 6 is True
    refine wl_wanted_det rfl rfl rfl rfl rfl rfl rfl (op_move rfl) ?_
    refine wl_wanted_det rfl rfl rfl rfl rfl rfl rfl (op_not rfl) ?_
    refine wl_det rfl rfl rfl (op_pick_t rfl rfl) ?_
    refine wl_det rfl rfl rfl (op_assign rfl) ?_
    refine wl_nil ?_
    refine st_tn ?_
    refine w_ret ?_
    refine st_ret (vs := [_]) [] Try.results60 ⟨rfl, trivial⟩ rfl ?_
    refine ⟨_, rfl, ?_⟩
    refine ⟨?_, rfl⟩; simp [retv, *]
  · -- 6 is False
    refine wl_unwanted rfl rfl rfl rfl rfl rfl rfl rfl ?_
    refine wl_unwanted rfl rfl rfl rfl rfl rfl rfl rfl ?_
    refine wl_det rfl rfl rfl (op_pick_f rfl rfl) ?_
    refine wl_det rfl rfl rfl (op_assign rfl) ?_
    refine wl_nil ?_
    refine st_tn ?_
    refine w_ret ?_
    refine st_ret (vs := [_]) [] Try.results60 ⟨rfl, trivial⟩ rfl ?_
    refine ⟨_, rfl, ?_⟩
    refine ⟨?_, rfl⟩; simp [retv, *]

theorem WF.unique {a b : List Run} {p : Int → Prop} (ha : WF a) (hb : WF b) (h1 : ∀ n, mem a n ↔ p n) (h2 : ∀ n, mem b n ↔ p n) : a = b := WF.ext ha hb fun n => (h1 n).trans (h2 n).symm
set_option maxHeartbeats 400000 in
set_option maxRecDepth 100000 in
theorem band_any {σ : World} {F : List Res} {p q : Option Addr} {c d : Nat} {a b : List Run} (lab : Nat) (ha : Sl σ F encRun 2 (.slice p a.length c) a) (hb : Sl σ F encRun 2 (.slice q b.length d) b)
    (hwa : WF a) (hwb : WF b) (hia : inB 0 1048575 a) (hib : inB 0 1048575 b) :
    FnT Try.prog σ F 31 [bm p a.length c, bm q b.length d] [] (BC (fun x y => x && y) a b lab) := by
  refine fn_of 8 Try.func31 rfl Try.ntmps31 rfl ?_
  refine w_seq ?_
  refine w_region ?_
  refine wl_op [] rfl rfl rfl rfl (op_box (T := 26) (l := 2) rfl) ?_
  rintro _ _ ⟨b2, rfl, rfl⟩
  refine wl_op [] rfl rfl rfl rfl (op_box (T := 26) (l := 3) rfl) ?_
  rintro _ _ ⟨b3, rfl, rfl⟩
  refine wl_op [] rfl rfl rfl rfl (op_alloc (l := 4) tN26i) ?_
  rintro _ _ ⟨b4, rfl, rfl⟩
  refine wl_nil ?_
  refine st_tn ?_
  refine w_seq ?_
  refine w_region ?_
  refine wl_det rfl rfl rfl (op_loadA rfl tA26i (Ent.lab (l := 2) rfl (says_cel 0)) (Nat.le_of_ble_eq_true rfl)) ?_
  refine wl_det rfl rfl rfl (op_loadA rfl tA26i (Ent.lab (l := 3) rfl (says_cel 0)) (Nat.le_of_ble_eq_true rfl)) ?_
  refine wl_op [] rfl rfl rfl rfl (op_fn Try.func57 rfl rfl rfl (combine_any 7 rfl (Sl.app ha _) (Sl.app hb _) hwa hwb hia hib Try.func58 rfl rfl (fun X x y => and1 x y))) ?_
  rintro _ _ ⟨rl, a7, c7, hw, hi, hm, rfl, rfl⟩
  refine wl_op0 [4] rfl rfl rfl (op_store rfl rfl tZ26i (by rfl) (by rfl) (by exact Nat.le_of_ble_eq_true rfl)) ?_
  rintro _ _ ⟨rfl, rfl⟩
  refine wl_nil ?_
  refine st_tn ?_
  refine w_ret ?_
  refine st_ret (vs := [_]) [7] Try.results31 ⟨⟨_, rfl, Ent.mono (Ent.lab (l := 4) rfl (says_cel 0)) (fun _ h => run_load_agg tA26i h (Nat.le_of_ble_eq_true rfl))⟩, trivial⟩ rfl ?_
  refine ⟨[(lab, _)], rfl, ?_⟩
  exact ⟨rl, _, _, hw, hi, hm, rfl, rfl⟩

set_option maxHeartbeats 400000 in
set_option maxRecDepth 100000 in
theorem bor_any {σ : World} {F : List Res} {p q : Option Addr} {c d : Nat} {a b : List Run} (lab : Nat) (ha : Sl σ F encRun 2 (.slice p a.length c) a) (hb : Sl σ F encRun 2 (.slice q b.length d) b)
    (hwa : WF a) (hwb : WF b) (hia : inB 0 1048575 a) (hib : inB 0 1048575 b) :
    FnT Try.prog σ F 32 [bm p a.length c, bm q b.length d] [] (BC (fun x y => x || y) a b lab) := by
  refine fn_of 8 Try.func32 rfl Try.ntmps32 rfl ?_
  refine w_seq ?_
  refine w_region ?_
  refine wl_op [] rfl rfl rfl rfl (op_box (T := 26) (l := 2) rfl) ?_
  rintro _ _ ⟨b2, rfl, rfl⟩
  refine wl_op [] rfl rfl rfl rfl (op_box (T := 26) (l := 3) rfl) ?_
  rintro _ _ ⟨b3, rfl, rfl⟩
  refine wl_op [] rfl rfl rfl rfl (op_alloc (l := 4) tN26i) ?_
  rintro _ _ ⟨b4, rfl, rfl⟩
  refine wl_nil ?_
  refine st_tn ?_
  refine w_seq ?_
  refine w_region ?_
  refine wl_det rfl rfl rfl (op_loadA rfl tA26i (Ent.lab (l := 2) rfl (says_cel 0)) (Nat.le_of_ble_eq_true rfl)) ?_
  refine wl_det rfl rfl rfl (op_loadA rfl tA26i (Ent.lab (l := 3) rfl (says_cel 0)) (Nat.le_of_ble_eq_true rfl)) ?_
  refine wl_op [] rfl rfl rfl rfl (op_fn Try.func57 rfl rfl rfl (combine_any 7 rfl (Sl.app ha _) (Sl.app hb _) hwa hwb hia hib Try.func59 rfl rfl (fun X x y => or1 x y))) ?_
  rintro _ _ ⟨rl, a7, c7, hw, hi, hm, rfl, rfl⟩
  refine wl_op0 [4] rfl rfl rfl (op_store rfl rfl tZ26i (by rfl) (by rfl) (by exact Nat.le_of_ble_eq_true rfl)) ?_
  rintro _ _ ⟨rfl, rfl⟩
  refine wl_nil ?_
  refine st_tn ?_
  refine w_ret ?_
  refine st_ret (vs := [_]) [7] Try.results32 ⟨⟨_, rfl, Ent.mono (Ent.lab (l := 4) rfl (says_cel 0)) (fun _ h => run_load_agg tA26i h (Nat.le_of_ble_eq_true rfl))⟩, trivial⟩ rfl ?_
  refine ⟨[(lab, _)], rfl, ?_⟩
  exact ⟨rl, _, _, hw, hi, hm, rfl, rfl⟩

set_option maxHeartbeats 400000 in
set_option maxRecDepth 100000 in
theorem bandnot_any {σ : World} {F : List Res} {p q : Option Addr} {c d : Nat} {a b : List Run} (lab : Nat) (ha : Sl σ F encRun 2 (.slice p a.length c) a) (hb : Sl σ F encRun 2 (.slice q b.length d) b)
    (hwa : WF a) (hwb : WF b) (hia : inB 0 1048575 a) (hib : inB 0 1048575 b) :
    FnT Try.prog σ F 33 [bm p a.length c, bm q b.length d] [] (BC (fun x y => x && !y) a b lab) := by
  refine fn_of 8 Try.func33 rfl Try.ntmps33 rfl ?_
  refine w_seq ?_
  refine w_region ?_
  refine wl_op [] rfl rfl rfl rfl (op_box (T := 26) (l := 2) rfl) ?_
  rintro _ _ ⟨b2, rfl, rfl⟩
  refine wl_op [] rfl rfl rfl rfl (op_box (T := 26) (l := 3) rfl) ?_
  rintro _ _ ⟨b3, rfl, rfl⟩
  refine wl_op [] rfl rfl rfl rfl (op_alloc (l := 4) tN26i) ?_
  rintro _ _ ⟨b4, rfl, rfl⟩
  refine wl_nil ?_
  refine st_tn ?_
  refine w_seq ?_
  refine w_region ?_
  refine wl_det rfl rfl rfl (op_loadA rfl tA26i (Ent.lab (l := 2) rfl (says_cel 0)) (Nat.le_of_ble_eq_true rfl)) ?_
  refine wl_det rfl rfl rfl (op_loadA rfl tA26i (Ent.lab (l := 3) rfl (says_cel 0)) (Nat.le_of_ble_eq_true rfl)) ?_
  refine wl_op [] rfl rfl rfl rfl (op_fn Try.func57 rfl rfl rfl (combine_any 7 rfl (Sl.app ha _) (Sl.app hb _) hwa hwb hia hib Try.func60 rfl rfl (fun X x y => andnot1 x y))) ?_
  rintro _ _ ⟨rl, a7, c7, hw, hi, hm, rfl, rfl⟩
  refine wl_op0 [4] rfl rfl rfl (op_store rfl rfl tZ26i (by rfl) (by rfl) (by exact Nat.le_of_ble_eq_true rfl)) ?_
  rintro _ _ ⟨rfl, rfl⟩
  refine wl_nil ?_
  refine st_tn ?_
  refine w_ret ?_
  refine st_ret (vs := [_]) [7] Try.results33 ⟨⟨_, rfl, Ent.mono (Ent.lab (l := 4) rfl (says_cel 0)) (fun _ h => run_load_agg tA26i h (Nat.le_of_ble_eq_true rfl))⟩, trivial⟩ rfl ?_
  refine ⟨[(lab, _)], rfl, ?_⟩
  exact ⟨rl, _, _, hw, hi, hm, rfl, rfl⟩

set_option maxHeartbeats 400000 in
set_option maxRecDepth 100000 in
theorem subset_any {σ : World} {F : List Res} {p q : Option Addr} {c d : Nat} {a b : List Run} (ha : Sl σ F encRun 2 (.slice p a.length c) a) (hb : Sl σ F encRun 2 (.slice q b.length d) b)
    (hwa : WF a) (hwb : WF b) (hia : inB 0 1048575 a) (hib : inB 0 1048575 b) :
    FnT Try.prog σ F 34 [bm p a.length c, bm q b.length d] [] (fun u ρ => ∃ r, u = .bool r ∧ (r = true ↔ ∀ n, mem a n → mem b n) ∧ ρ = []) := by
  refine fn_of 11 Try.func34 rfl Try.ntmps34 rfl ?_
  refine w_seq ?_
  refine w_region ?_
  refine wl_op [] rfl rfl rfl rfl (op_box (T := 26) (l := 2) rfl) ?_
  rintro _ _ ⟨b2, rfl, rfl⟩
  refine wl_op [] rfl rfl rfl rfl (op_box (T := 26) (l := 3) rfl) ?_
  rintro _ _ ⟨b3, rfl, rfl⟩
  refine wl_det rfl rfl rfl (op_assign rfl) ?_
  refine wl_nil ?_
  refine st_tn ?_
  refine w_seq ?_
  refine w_region ?_
  refine wl_det rfl rfl rfl (op_loadA rfl tA26i (Ent.lab (l := 2) rfl (says_cel 0)) (Nat.le_of_ble_eq_true rfl)) ?_
  refine wl_det rfl rfl rfl (op_loadA rfl tA26i (Ent.lab (l := 3) rfl (says_cel 0)) (Nat.le_of_ble_eq_true rfl)) ?_
  refine wl_op [] rfl rfl rfl rfl (op_fn Try.func33 rfl rfl rfl (bandnot_any 7 (Sl.app ha _) (Sl.app hb _) hwa hwb hia hib)) ?_
  rintro _ _ ⟨rl, a7, c7, hw, hi, hm, rfl, rfl⟩
  have hrl := (wf_len hw hi).2
  refine wl_det rfl rfl rfl (op_field1 rfl tV26_0i tO24i rfl) ?_
  refine wl_det rfl rfl rfl (op_lenT rfl tS24i (Sl.ent (Sl.lab 7 rfl (by unfold maxLen; omega)))) ?_
  refine wl_det rfl rfl rfl (op_eql rfl rfl) ?_
  refine wl_det rfl rfl rfl (op_assign rfl) ?_
  refine wl_nil ?_
  refine st_tn ?_
  refine w_ret ?_
  refine st_ret (vs := [_]) [] Try.results34 ⟨rfl, trivial⟩ rfl ?_
  refine ⟨_, rfl, ?_⟩
  refine ⟨decide ((rl.length : Int) = 0), rfl, ?_, rfl⟩
  rw [decide_eq_true_iff]
  constructor
  · intro h n hn
    obtain rfl : rl = [] := List.eq_nil_of_length_eq_zero (by omega)
    refine Classical.byContradiction fun hb => mem_nil n ((hm n).2 ?_)
    rw [memB_iff.2 hn, memB_false.2 hb]; rfl
  · intro h
    have : rl = [] := by
      refine Classical.byContradiction fun hne => ?_
      obtain ⟨r, rl', rfl⟩ := List.exists_cons_of_ne_nil hne
      have h1 := (hm r.1).1 ⟨r, by simp, by omega, hw.1 r (by simp)⟩
      simp only [Bool.and_eq_true, Bool.not_eq_true'] at h1
      have h2 := h r.1 (memB_iff.1 h1.1)
      rw [← memB_iff, h1.2] at h2; simp at h2
    subst this; rfl

end Go.Proofs.Ytkknlfhncheflaa
