/- Contracts: names, Check, Same, Equal, Shift, and the law's check, same, coarsen, total (layer 43). Conditions: none. -/
import Derived.Test.YtbgddblfalahfaaS7
namespace Go.Proofs.Ytbgddblfalahfaa
open Go Go.SL Go.RowKit
set_option linter.unusedVariables false
set_option linter.unusedSimpArgs false
theorem tA24h : aggB Try.prog 24 2 = true := by kernel_rfl
theorem tA48h : aggB Try.prog 48 7 = true := by kernel_rfl
theorem tB24h : placesB Try.prog 24 = some ([(0, 1), (1, 1)], [Value.int .i64 0, Value.int .i64 0]) := by kernel_rfl
theorem tB48h : placesB Try.prog 48 = some ([(0, 1), (1, 1), (2, 1), (3, 2), (5, 1), (6, 1)], [Value.string .empty, Value.string .empty, Value.int .i64 0, Value.int .i64 0, Value.int .i64 0, Value.int .i64 0, Value.slice none 0 0]) := by kernel_rfl
theorem tF48_0h : fieldB Try.prog 48 0 0 = true := by kernel_rfl
theorem tF48_1h : fieldB Try.prog 48 1 1 = true := by kernel_rfl
theorem tF48_2h : fieldB Try.prog 48 2 2 = true := by kernel_rfl
theorem tF48_3h : fieldB Try.prog 48 3 3 = true := by kernel_rfl
theorem tF48_4h : fieldB Try.prog 48 4 5 = true := by kernel_rfl
theorem tF48_5h : fieldB Try.prog 48 5 6 = true := by kernel_rfl
theorem tG24h : Try.prog.eqGuardType Try.prog.depth 24 = false := by kernel_rfl
theorem tMixh : Try.prog.follows .mixedOrders = true := by kernel_rfl
theorem tN48h : (Try.prog.info? 48).bind (·.zero) = some (Value.agg #[Value.string .empty, Value.string .empty, Value.int .i64 0, Value.int .i64 0, Value.int .i64 0, Value.int .i64 0, Value.slice none 0 0]) := by kernel_rfl
theorem tO25h : oneB Try.prog 25 = true := by kernel_rfl
theorem tO3h : oneB Try.prog 3 = true := by kernel_rfl
theorem tO9h : oneB Try.prog 9 = true := by kernel_rfl
theorem tS25h : sliceB Try.prog 25 3 1 = true := by kernel_rfl
theorem tZ48h : (Try.prog.info? 48).map (·.size) = some 7 := by kernel_rfl

theorem ba_get (s : ByteArray) (i : Nat) : s[i]? = s.data.toList[i]? := by
  by_cases h : i < s.size
  · rw [getElem?_pos s i h, List.getElem?_eq_getElem (by rw [Array.length_toList]; exact h)]; rfl
  · rw [getElem?_neg s i h, List.getElem?_eq_none (by rw [Array.length_toList]; exact Nat.le_of_not_lt h)]
/-- All bytes lie in a range. -/
def within (lo hi : Int) (s : ByteArray) : Prop := ∀ b ∈ s.data.toList, lo ≤ (b.toNat : Int) ∧ (b.toNat : Int) ≤ hi
instance (lo hi : Int) (s : ByteArray) : Decidable (within lo hi s) := by unfold within; infer_instance
set_option maxHeartbeats 400000 in
set_option maxRecDepth 100000 in
theorem within_any {σ : World} {F : List Res} (s : ByteArray) (lo hi : Int) (hs : s.size ≤ maxLen) (h0 : 0 ≤ lo ∧ lo ≤ 255) (h1 : 0 ≤ hi ∧ hi ≤ 255) : FnT Try.prog σ F 81 [.string s, .int .u8 lo, .int .u8 hi] [] (fun u ρ => u = .bool (decide (within lo hi s)) ∧ ρ = []) := by
  refine fn_of 26 Try.func81 rfl Try.ntmps81 rfl ?_
  have hls : s.data.toList.length = s.size := by rw [Array.length_toList]; rfl
  unfold maxLen at hs
  refine w_seq ?_
  refine w_region ?_
  refine wl_det rfl rfl rfl (op_assign rfl) ?_
  refine wl_nil ?_
  refine st_tn ?_
  refine w_seq ?_
  refine w_seq ?_
  refine w_region ?_
  refine wl_det rfl rfl rfl (op_move rfl) ?_
  refine wl_det rfl rfl rfl (op_lenS rfl Try.underlying9) ?_
  refine wl_det rfl rfl rfl (op_move rfl) ?_
  refine wl_nil ?_
  refine st_tn ?_
  refine w_block ?_
  refine w_loopQ (X := Nat) (fun z => z ≤ s.size ∧ ∀ b ∈ s.data.toList.take z, lo ≤ (b.toNat : Int) ∧ (b.toNat : Int) ≤ hi) (fun z => [(10, .int .i64 (z))]) (fun _ => []) (fun z => s.size - z) (0) [(0, _), (1, _), (2, _), (9, _)] [] [] rfl (rfl) (.cons rfl (.nil _)) (.cons rfl (.cons rfl (.cons rfl (.cons rfl (.nil _))))) (by
      try dsimp only
      exact ⟨Nat.zero_le _, by simp⟩) ?_
  rintro i ⟨hi0, hn⟩
  refine w_norm2 (by dsimp only [List.cons_append, List.nil_append]) (by dsimp only [List.cons_append, List.nil_append]) ?_
  try dsimp only at hi0 hn ⊢
  refine w_seq ?_
  refine w_region ?_
  refine wl_det rfl rfl rfl (op_lss rfl rfl) ?_
  refine wl_nil ?_
  refine st_tn ?_
  refine w_seq ?_
  refine w_cond_d rfl (fun hc11 => ?_) (fun hc11 => ?_)
  · -- c11.t
    obtain ⟨b, hb⟩ : ∃ b, s[i]? = some b := ⟨s[i], getElem?_pos s i (by omega)⟩
    have hb' : s.data.toList[i]? = some b := by rw [← ba_get]; exact hb
    refine w_skip ?_
    refine st_tn ?_
    refine w_seq ?_
    refine w_block ?_
    refine w_seq ?_
    refine w_region ?_
    refine wl_det rfl rfl rfl (op_move rfl) ?_
    refine wl_det rfl rfl rfl (op_assign rfl) ?_
    refine wl_nil ?_
    refine st_tn ?_
    refine w_seq ?_
    refine w_cutL [(24, .bool (decide ((b.toNat : Int) < lo ∨ (b.toNat : Int) > hi)))] [0, 1, 2, 9, 10] [] rfl (fun K' hK => ?_) ?_
    · -- cut r4
      refine w_region ?_
      refine wl_det rfl rfl rfl (op_move rfl) ?_
      refine wl_det rfl rfl rfl (op_move rfl) ?_
      refine wl_det rfl rfl rfl (op_idxS rfl rfl Try.underlying9 (by assumption)) ?_
      refine wl_det rfl rfl rfl (op_move rfl) ?_
      refine wl_det rfl rfl rfl (op_lss rfl rfl) ?_
      refine wl_det rfl rfl rfl (op_move rfl) ?_
      refine wl_gsplit (t := 18) rfl (fun hg18 => ?_) (fun hg18 => ?_)
      · -- 18 is True
        refine wl_unwanted rfl rfl rfl rfl rfl rfl rfl rfl ?_
        refine wl_unwanted rfl rfl rfl rfl rfl rfl rfl rfl ?_
        refine wl_unwanted rfl rfl rfl rfl rfl rfl rfl rfl ?_
        refine wl_unwanted rfl rfl rfl rfl rfl rfl rfl rfl ?_
        refine wl_unwanted rfl rfl rfl rfl rfl rfl rfl rfl ?_
        refine wl_det rfl rfl rfl (op_pick_t rfl rfl) ?_
        refine wl_nil ?_
        refine st_tn ?_
        exact cut_done1 [] hK rfl (by first | (rw [decide_eq_decide]; omega) | (symm; rw [decide_eq_false_iff_not]; omega) | (symm; rw [decide_eq_true_iff]; omega) | (simp; done) | (simp; omega) | (simp [*]; done) | (simp [*]; omega)) (by rfl) rfl rfl
      · -- 18 is False
        refine wl_wanted_det rfl rfl rfl rfl rfl rfl rfl (op_move rfl) ?_
        refine wl_wanted_det rfl rfl rfl rfl rfl rfl rfl (op_move rfl) ?_
        refine wl_wanted_det rfl rfl rfl rfl rfl rfl rfl (op_idxS rfl rfl Try.underlying9 (by assumption)) ?_
        refine wl_wanted_det rfl rfl rfl rfl rfl rfl rfl (op_move rfl) ?_
        refine wl_wanted_det rfl rfl rfl rfl rfl rfl rfl (op_gtr rfl rfl) ?_
        refine wl_det rfl rfl rfl (op_pick_f rfl rfl) ?_
        refine wl_nil ?_
        refine st_tn ?_
        exact cut_done1 [] hK rfl (by first | (rw [decide_eq_decide]; omega) | (symm; rw [decide_eq_false_iff_not]; omega) | (symm; rw [decide_eq_true_iff]; omega) | (simp; done) | (simp; omega) | (simp [*]; done) | (simp [*]; omega)) (by rfl) rfl rfl
    · -- behind r4
      show W _ _ _ _ _ [(24, _), (0, _), (1, _), (2, _), (9, _), (10, _)] [] _
      refine w_cond_d rfl (fun hc24 => ?_) (fun hc24 => ?_)
      · -- c24.t
        refine w_seq ?_
        refine w_region ?_
        refine wl_det rfl rfl rfl (op_assign rfl) ?_
        refine wl_nil ?_
        refine st_tn ?_
        refine w_ret ?_
        refine st_br ?_
        refine st_tr ?_
        refine st_tr ?_
        refine st_br ?_
        refine st_tr ?_
        refine st_ret (vs := [_]) [] Try.results81 ⟨rfl, trivial⟩ rfl ?_
        refine ⟨_, rfl, ?_⟩
        refine ⟨?_, rfl⟩; have : ¬ within lo hi s := fun h => by have := h b (List.mem_of_getElem? hb'); omega
        simp [retv, this]
      · -- c24.f
        refine w_skip ?_
        refine st_bn ?_
        refine st_tn ?_
        refine w_region ?_
        refine wl_det rfl rfl rfl (op_add' rfl rfl (by omega)) ?_
        refine wl_det rfl rfl rfl (op_move rfl) ?_
        refine wl_nil ?_
        refine st_roundQ (x := i) (i + 1) [] rfl (rfl) (.cons rfl (.nil _)) (.cons rfl (.cons rfl (.cons rfl (.cons rfl (.nil _))))) (by
            try dsimp only
            refine ⟨by omega, by rw [take_snoc hb']; intro q hq; rcases List.mem_append.1 hq with hq | hq; (· exact hn q hq); (· simp only [List.mem_singleton] at hq; subst hq; omega)⟩) (by
            try dsimp only
            omega) 
  · -- c11.f
    refine w_exit ?_
    refine st_te ?_
    refine st_te ?_
    refine st_be ?_
    refine st_tn ?_
    refine w_seq ?_
    refine w_region ?_
    refine wl_det rfl rfl rfl (op_assign rfl) ?_
    refine wl_nil ?_
    refine st_tn ?_
    refine w_ret ?_
    refine st_ret (vs := [_]) [] Try.results81 ⟨rfl, trivial⟩ rfl ?_
    refine ⟨_, rfl, ?_⟩
    refine ⟨?_, rfl⟩; rw [take_all (by omega)] at hn; have : within lo hi s := hn
    simp [retv, this]

/-- A name. -/
def nameP (s : ByteArray) : Prop := (s ≠ ⟨#[]⟩ ∧ (s.size : Int) ≤ 64) ∧ within 33 126 s
instance (s : ByteArray) : Decidable (nameP s) := by unfold nameP; infer_instance
-- CALL sleuth/attribute.within within_any _ _ _ (by assumption) (by omega) (by omega)
set_option maxHeartbeats 400000 in
set_option maxRecDepth 100000 in
theorem isName_any {σ : World} {F : List Res} (s : ByteArray) (hs : s.size ≤ maxLen) : FnT Try.prog σ F 59 [.string s] [] (fun u ρ => u = .bool (decide (nameP s)) ∧ ρ = []) := by
  refine fn_of 14 Try.func59 rfl Try.ntmps59 rfl ?_
  refine w_seq ?_
  refine w_region ?_
  refine wl_det rfl rfl rfl (op_assign rfl) ?_
  refine wl_nil ?_
  refine st_tn ?_
  refine w_seq ?_
  refine w_region ?_
  refine wl_det rfl rfl rfl (op_move rfl) ?_
  refine wl_det rfl rfl rfl (op_neStr rfl rfl) ?_
  refine wl_det rfl rfl rfl (op_move rfl) ?_
  refine wl_gsplit (t := 5) rfl (fun hg5 => ?_) (fun hg5 => ?_)
  · -- 5 is True
    refine wl_wanted_det rfl rfl rfl rfl rfl rfl rfl (op_move rfl) ?_
    refine wl_wanted_det rfl rfl rfl rfl rfl rfl rfl (op_lenS rfl Try.underlying9) ?_
    refine wl_wanted_det rfl rfl rfl rfl rfl rfl rfl (op_leq rfl rfl) ?_
    refine wl_det rfl rfl rfl (op_pick_t rfl rfl) ?_
    refine wl_det rfl rfl rfl (op_move rfl) ?_
    refine wl_gsplit (t := 10) rfl (fun hg10 => ?_) (fun hg10 => ?_)
    · -- 10 is True
      refine wl_wanted_det rfl rfl rfl rfl rfl rfl rfl (op_move rfl) ?_
      refine wl_wanted_det rfl rfl rfl rfl rfl rfl rfl (op_fn Try.func81 rfl rfl rfl (within_any _ _ _ (by assumption) (by omega) (by omega))) ?_
      refine wl_det rfl rfl rfl (op_pick_t rfl rfl) ?_
      refine wl_det rfl rfl rfl (op_assign rfl) ?_
      refine wl_nil ?_
      refine st_tn ?_
      refine w_ret ?_
      refine st_ret (vs := [_]) [] Try.results59 ⟨rfl, trivial⟩ rfl ?_
      refine ⟨_, rfl, ?_⟩
      refine ⟨?_, rfl⟩
      unfold nameP
      first | (simp [retv, *]; done) | (simp [retv, *]; omega) | (simp_all [retv]; done)
    · -- 10 is False
      refine wl_unwanted rfl rfl rfl rfl rfl rfl rfl rfl ?_
      refine wl_unwanted rfl rfl rfl rfl rfl rfl rfl rfl ?_
      refine wl_det rfl rfl rfl (op_pick_f rfl rfl) ?_
      refine wl_det rfl rfl rfl (op_assign rfl) ?_
      refine wl_nil ?_
      refine st_tn ?_
      refine w_ret ?_
      refine st_ret (vs := [_]) [] Try.results59 ⟨rfl, trivial⟩ rfl ?_
      refine ⟨_, rfl, ?_⟩
      refine ⟨?_, rfl⟩
      unfold nameP
      first | (simp [retv, *]; done) | (simp [retv, *]; omega) | (simp_all [retv]; done)
  · -- 5 is False
    refine wl_unwanted rfl rfl rfl rfl rfl rfl rfl rfl ?_
    refine wl_unwanted rfl rfl rfl rfl rfl rfl rfl rfl ?_
    refine wl_unwanted rfl rfl rfl rfl rfl rfl rfl rfl ?_
    refine wl_det rfl rfl rfl (op_pick_f rfl rfl) ?_
    refine wl_det rfl rfl rfl (op_move rfl) ?_
    refine wl_unwanted rfl rfl rfl rfl rfl rfl rfl rfl ?_
    refine wl_unwanted rfl rfl rfl rfl rfl rfl rfl rfl ?_
    refine wl_det rfl rfl rfl (op_pick_f rfl rfl) ?_
    refine wl_det rfl rfl rfl (op_assign rfl) ?_
    refine wl_nil ?_
    refine st_tn ?_
    refine w_ret ?_
    refine st_ret (vs := [_]) [] Try.results59 ⟨rfl, trivial⟩ rfl ?_
    refine ⟨_, rfl, ?_⟩
    refine ⟨?_, rfl⟩
    unfold nameP
    first | (simp [retv, *]; done) | (simp [retv, *]; omega) | (simp_all [retv]; done)

-- CALL sleuth/attribute.IsName isName_any _ (by assumption)
set_option maxHeartbeats 400000 in
set_option maxRecDepth 100000 in
theorem badv_any {σ : World} {F : List Res} (x : Int) : FnT Try.prog σ F 60 [.int .i64 x] [] (fun u ρ => u = .bool (decide (x < 0 ∨ x > 1099511627776)) ∧ ρ = []) := by
  refine fn_of 9 Try.func60 rfl Try.ntmps60 rfl ?_
  refine w_seq ?_
  refine w_region ?_
  refine wl_det rfl rfl rfl (op_assign rfl) ?_
  refine wl_nil ?_
  refine st_tn ?_
  refine w_seq ?_
  refine w_region ?_
  refine wl_det rfl rfl rfl (op_move rfl) ?_
  refine wl_det rfl rfl rfl (op_lss rfl rfl) ?_
  refine wl_det rfl rfl rfl (op_move rfl) ?_
  refine wl_gsplit (t := 5) rfl (fun hg5 => ?_) (fun hg5 => ?_)
  · -- 5 is True
    refine wl_unwanted rfl rfl rfl rfl rfl rfl rfl rfl ?_
    refine wl_unwanted rfl rfl rfl rfl rfl rfl rfl rfl ?_
    refine wl_det rfl rfl rfl (op_pick_t rfl rfl) ?_
    refine wl_det rfl rfl rfl (op_assign rfl) ?_
    refine wl_nil ?_
    refine st_tn ?_
    refine w_ret ?_
    refine st_ret (vs := [_]) [] Try.results60 ⟨rfl, trivial⟩ rfl ?_
    refine ⟨_, rfl, ?_⟩
    refine ⟨?_, rfl⟩
    first | (simp [retv, *]; done) | (simp [retv, *]; omega)
  · -- 5 is False
    refine wl_wanted_det rfl rfl rfl rfl rfl rfl rfl (op_move rfl) ?_
    refine wl_wanted_det rfl rfl rfl rfl rfl rfl rfl (op_gtr rfl rfl) ?_
    refine wl_det rfl rfl rfl (op_pick_f rfl rfl) ?_
    refine wl_det rfl rfl rfl (op_assign rfl) ?_
    refine wl_nil ?_
    refine st_tn ?_
    refine w_ret ?_
    refine st_ret (vs := [_]) [] Try.results60 ⟨rfl, trivial⟩ rfl ?_
    refine ⟨_, rfl, ?_⟩
    refine ⟨?_, rfl⟩
    first | (simp [retv, *]; done) | (simp [retv, *]; omega)

/-- The error of a series. -/
def chkE (k : SK) (fr : Int) (l : List Int) : Int :=
  if ¬ nameP k.svc ∨ (k.op ≠ ⟨#[]⟩ ∧ ¬ nameP k.op) then 11
  else if k.met < 1 ∨ k.met > 3 then 12
  else if (k.met = 3 ∧ ¬ goodB k.qn k.qd) ∨ (k.met ≠ 3 ∧ ¬ (k.qn, k.qd) = (0, 0)) then 3
  else if fr < 0 ∨ fr > 1048576 then 32
  else if l.length > 1024 then 6
  else if fr + l.length > 1048577 then 32
  else if l.any (fun x => decide (x < 0 ∨ x > 1099511627776)) then 2 else 0
set_option maxHeartbeats 1000000 in
set_option maxRecDepth 100000 in
theorem check_any {σ : World} {F : List Res} {a : Option Addr} {c : Nat} {l : List Int} (k : SK) (fr : Int) (h : Sl σ F encZ 1 (.slice a l.length c) l) (hs : k.svc.size ≤ maxLen) (ho : k.op.size ≤ maxLen) (hx : -9223372036854775808 ≤ k.qn ∧ k.qn ≤ 9223372036854775807) (hy : -9223372036854775808 ≤ k.qd ∧ k.qd ≤ 9223372036854775807) :
    FnT Try.prog σ F 30 [sr k fr (.slice a l.length c)] [] (fun u ρ => u = .int .i64 (chkE k fr l) ∧ ρ = []) := by
  refine fn_of 75 Try.func30 rfl Try.ntmps30 rfl ?_
  have hle := h.i64
  refine w_seq ?_
  refine w_region ?_
  refine wl_op [] rfl rfl rfl rfl (op_box (T := 48) (l := 1) rfl) ?_
  rintro _ _ ⟨b1, rfl, rfl⟩
  refine wl_det rfl rfl rfl (op_assign rfl) ?_
  refine wl_nil ?_
  refine st_tn ?_
  refine w_seq ?_
  refine w_block ?_
  refine w_seq ?_
  refine w_cutL [(3, .bool (decide (¬ nameP k.svc ∨ (k.op ≠ ⟨#[]⟩ ∧ ¬ nameP k.op))))] [1] [1] rfl (fun K' hK => ?_) ?_
  · -- cut r1
    refine w_region ?_
    refine wl_det rfl rfl rfl (op_fieldAddr (off := 0) rfl tF48_0h) ?_
    refine wl_det rfl rfl rfl (op_load1 rfl tO9h (Ent.lab (l := 1) rfl (says_cel 0))) ?_
    refine wl_det rfl rfl rfl (op_fn Try.func59 rfl rfl rfl (isName_any _ (by assumption))) ?_
    refine wl_det rfl rfl rfl (op_not_d rfl) ?_
    refine wl_det rfl rfl rfl (op_move rfl) ?_
    refine wl_gsplit (t := 8) rfl (fun hg8 => ?_) (fun hg8 => ?_)
    · -- 8 is True
      refine wl_unwanted rfl rfl rfl rfl rfl rfl rfl rfl ?_
      refine wl_unwanted rfl rfl rfl rfl rfl rfl rfl rfl ?_
      refine wl_unwanted rfl rfl rfl rfl rfl rfl rfl rfl ?_
      refine wl_unwanted rfl rfl rfl rfl rfl rfl rfl rfl ?_
      refine wl_unwantedU rfl rfl rfl rfl rfl rfl rfl ?_
      refine wl_unwantedU rfl rfl rfl rfl rfl rfl rfl ?_
      refine wl_unwantedU rfl rfl rfl rfl rfl rfl rfl ?_
      refine wl_unwantedU rfl rfl rfl rfl rfl rfl rfl ?_
      refine wl_unwanted rfl rfl rfl rfl rfl rfl rfl rfl ?_
      refine wl_det rfl rfl rfl (op_pick_t rfl rfl) ?_
      refine wl_det rfl rfl rfl (op_assign rfl) ?_
      refine wl_nil ?_
      refine st_tn ?_
      exact cut_done1 [1] hK rfl (by first | (rw [decide_eq_decide]; omega) | (symm; rw [decide_eq_false_iff_not]; omega) | (symm; rw [decide_eq_true_iff]; omega) | (simp; done) | (simp; omega) | (simp [*]; done) | (simp [*]; omega)) (by rfl) rfl rfl
    · -- 8 is False
      refine wl_wanted_det rfl rfl rfl rfl rfl rfl rfl (op_fieldAddr (off := 1) rfl tF48_1h) ?_
      refine wl_wanted_det rfl rfl rfl rfl rfl rfl rfl (op_load1 rfl tO9h (Ent.lab (l := 1) rfl (says_cel 1))) ?_
      refine wl_wanted_det rfl rfl rfl rfl rfl rfl rfl (op_neStr rfl rfl) ?_
      refine wl_wanted_det rfl rfl rfl rfl rfl rfl rfl (op_move rfl) ?_
      refine wl_gsplit (t := 12) rfl (fun hg12 => ?_) (fun hg12 => ?_)
      · -- 12 is True
        refine wl_wanted_det rfl rfl rfl rfl rfl rfl rfl (op_fieldAddr (off := 1) rfl tF48_1h) ?_
        refine wl_wanted_det rfl rfl rfl rfl rfl rfl rfl (op_load1 rfl tO9h (Ent.lab (l := 1) rfl (says_cel 1))) ?_
        refine wl_wanted_det rfl rfl rfl rfl rfl rfl rfl (op_fn Try.func59 rfl rfl rfl (isName_any _ (by assumption))) ?_
        refine wl_wanted_det rfl rfl rfl rfl rfl rfl rfl (op_not_d rfl) ?_
        refine wl_wanted_det rfl rfl rfl rfl rfl rfl rfl (op_pick_t rfl rfl) ?_
        refine wl_det rfl rfl rfl (op_pick_f rfl rfl) ?_
        refine wl_det rfl rfl rfl (op_assign rfl) ?_
        refine wl_nil ?_
        refine st_tn ?_
        exact cut_done1 [1] hK rfl (by first | (rw [decide_eq_decide]; omega) | (symm; rw [decide_eq_false_iff_not]; omega) | (symm; rw [decide_eq_true_iff]; omega) | (simp; done) | (simp; omega) | (simp [*]; done) | (simp [*]; omega)) (by rfl) rfl rfl
      · -- 12 is False
        refine wl_unwanted rfl rfl rfl rfl rfl rfl rfl rfl ?_
        refine wl_unwanted rfl rfl rfl rfl rfl rfl rfl rfl ?_
        refine wl_unwanted rfl rfl rfl rfl rfl rfl rfl rfl ?_
        refine wl_unwanted rfl rfl rfl rfl rfl rfl rfl rfl ?_
        refine wl_wanted_det rfl rfl rfl rfl rfl rfl rfl (op_pick_f rfl rfl) ?_
        refine wl_det rfl rfl rfl (op_pick_f rfl rfl) ?_
        refine wl_det rfl rfl rfl (op_assign rfl) ?_
        refine wl_nil ?_
        refine st_tn ?_
        exact cut_done1 [1] hK rfl (by first | (rw [decide_eq_decide]; omega) | (symm; rw [decide_eq_false_iff_not]; omega) | (symm; rw [decide_eq_true_iff]; omega) | (simp; done) | (simp; omega) | (simp [*]; done) | (simp [*]; omega)) (by rfl) rfl rfl
  · -- behind r1
    show W _ _ _ _ _ [(3, _), (1, _)] [(1, _)] _
    refine w_cond_d rfl (fun hc3 => ?_) (fun hc3 => ?_)
    · -- c3.t
      refine w_seq ?_
      refine w_region ?_
      refine wl_det rfl rfl rfl (op_assign rfl) ?_
      refine wl_nil ?_
      refine st_tn ?_
      refine w_ret ?_
      refine st_br ?_
      refine st_tr ?_
      refine st_ret (vs := [_]) [] Try.results30 ⟨rfl, trivial⟩ rfl ?_
      refine ⟨_, rfl, ?_⟩
      unfold chkE; rw [if_pos hc3]; exact ⟨rfl, rfl⟩
    · -- c3.f
      refine w_seq ?_
      refine w_cutL [(19, .bool (decide (k.met < 1 ∨ k.met > 3)))] [1] [1] rfl (fun K' hK => ?_) ?_
      · -- cut r3
        refine w_region ?_
        refine wl_det rfl rfl rfl (op_fieldAddr (off := 2) rfl tF48_2h) ?_
        refine wl_det rfl rfl rfl (op_load1 rfl tO3h (Ent.lab (l := 1) rfl (says_cel 2))) ?_
        refine wl_det rfl rfl rfl (op_lss rfl rfl) ?_
        refine wl_det rfl rfl rfl (op_move rfl) ?_
        refine wl_gsplit (t := 23) rfl (fun hg23 => ?_) (fun hg23 => ?_)
        · -- 23 is True
          refine wl_unwanted rfl rfl rfl rfl rfl rfl rfl rfl ?_
          refine wl_unwanted rfl rfl rfl rfl rfl rfl rfl rfl ?_
          refine wl_unwanted rfl rfl rfl rfl rfl rfl rfl rfl ?_
          refine wl_det rfl rfl rfl (op_pick_t rfl rfl) ?_
          refine wl_det rfl rfl rfl (op_assign rfl) ?_
          refine wl_nil ?_
          refine st_tn ?_
          exact cut_done1 [1] hK rfl (by first | (rw [decide_eq_decide]; omega) | (symm; rw [decide_eq_false_iff_not]; omega) | (symm; rw [decide_eq_true_iff]; omega) | (simp; done) | (simp; omega) | (simp [*]; done) | (simp [*]; omega)) (by rfl) rfl rfl
        · -- 23 is False
          refine wl_wanted_det rfl rfl rfl rfl rfl rfl rfl (op_fieldAddr (off := 2) rfl tF48_2h) ?_
          refine wl_wanted_det rfl rfl rfl rfl rfl rfl rfl (op_load1 rfl tO3h (Ent.lab (l := 1) rfl (says_cel 2))) ?_
          refine wl_wanted_det rfl rfl rfl rfl rfl rfl rfl (op_gtr rfl rfl) ?_
          refine wl_det rfl rfl rfl (op_pick_f rfl rfl) ?_
          refine wl_det rfl rfl rfl (op_assign rfl) ?_
          refine wl_nil ?_
          refine st_tn ?_
          exact cut_done1 [1] hK rfl (by first | (rw [decide_eq_decide]; omega) | (symm; rw [decide_eq_false_iff_not]; omega) | (symm; rw [decide_eq_true_iff]; omega) | (simp; done) | (simp; omega) | (simp [*]; done) | (simp [*]; omega)) (by rfl) rfl rfl
      · -- behind r3
        show W _ _ _ _ _ [(19, _), (1, _)] [(1, _)] _
        refine w_cond_d rfl (fun hc19 => ?_) (fun hc19 => ?_)
        · -- c19.t
          refine w_seq ?_
          refine w_region ?_
          refine wl_det rfl rfl rfl (op_assign rfl) ?_
          refine wl_nil ?_
          refine st_tn ?_
          refine w_ret ?_
          refine st_br ?_
          refine st_tr ?_
          refine st_ret (vs := [_]) [] Try.results30 ⟨rfl, trivial⟩ rfl ?_
          refine ⟨_, rfl, ?_⟩
          unfold chkE; rw [if_neg hc3, if_pos hc19]; exact ⟨rfl, rfl⟩
        · -- c19.f
          refine w_seq ?_
          refine w_cutL [(28, .bool (decide ((k.met = 3 ∧ ¬ goodB k.qn k.qd) ∨ (k.met ≠ 3 ∧ ¬ (k.qn, k.qd) = (0, 0)))))] [1] [1] rfl (fun K' hK => ?_) ?_
          · -- cut r5
            refine w_region ?_
            refine wl_det rfl rfl rfl (op_fieldAddr (off := 2) rfl tF48_2h) ?_
            refine wl_det rfl rfl rfl (op_load1 rfl tO3h (Ent.lab (l := 1) rfl (says_cel 2))) ?_
            refine wl_det rfl rfl rfl (op_eql rfl rfl) ?_
            refine wl_det rfl rfl rfl (op_move rfl) ?_
            refine wl_gsplit (t := 32) rfl (fun hg32 => ?_) (fun hg32 => ?_)
            · -- 32 is True
              refine wl_wanted_det rfl rfl rfl rfl rfl rfl rfl (op_fieldAddr (off := 3) rfl tF48_3h) ?_
              refine wl_wanted_det rfl rfl rfl rfl rfl rfl rfl (op_loadA rfl tA24h (Ent.lab (l := 1) rfl (says_cel 3)) (Nat.le_of_ble_eq_true rfl)) ?_
              refine wl_wanted_det rfl rfl rfl rfl rfl rfl rfl (op_fn Try.func46 rfl rfl rfl (squant_any _ _ (by omega) (by omega))) ?_
              refine wl_wanted_det rfl rfl rfl rfl rfl rfl rfl (op_not_d rfl) ?_
              refine wl_det rfl rfl rfl (op_pick_t rfl rfl) ?_
              refine wl_det rfl rfl rfl (op_move rfl) ?_
              refine wl_gsplit (t := 38) rfl (fun hg38 => ?_) (fun hg38 => ?_)
              · -- 38 is True
                refine wl_unwanted rfl rfl rfl rfl rfl rfl rfl rfl ?_
                refine wl_unwanted rfl rfl rfl rfl rfl rfl rfl rfl ?_
                refine wl_unwanted rfl rfl rfl rfl rfl rfl rfl rfl ?_
                refine wl_unwanted rfl rfl rfl rfl rfl rfl rfl rfl ?_
                refine wl_unwantedU rfl rfl rfl rfl rfl rfl rfl ?_
                refine wl_unwantedU rfl rfl rfl rfl rfl rfl rfl ?_
                refine wl_unwantedU rfl rfl rfl rfl rfl rfl rfl ?_
                refine wl_unwantedU rfl rfl rfl rfl rfl rfl rfl ?_
                refine wl_unwanted rfl rfl rfl rfl rfl rfl rfl rfl ?_
                refine wl_det rfl rfl rfl (op_pick_t rfl rfl) ?_
                refine wl_det rfl rfl rfl (op_assign rfl) ?_
                refine wl_nil ?_
                refine st_tn ?_
                exact cut_done1 [1] hK rfl (by first | (rw [decide_eq_decide]; omega) | (symm; rw [decide_eq_false_iff_not]; omega) | (symm; rw [decide_eq_true_iff]; omega) | (simp; done) | (simp; omega) | (simp [*]; done) | (simp [*]; omega)) (by rfl) rfl rfl
              · -- 38 is False
                refine wl_wanted_det rfl rfl rfl rfl rfl rfl rfl (op_fieldAddr (off := 2) rfl tF48_2h) ?_
                refine wl_wanted_det rfl rfl rfl rfl rfl rfl rfl (op_load1 rfl tO3h (Ent.lab (l := 1) rfl (says_cel 2))) ?_
                refine wl_wanted_det rfl rfl rfl rfl rfl rfl rfl (op_neq rfl rfl) ?_
                refine wl_wanted_det rfl rfl rfl rfl rfl rfl rfl (op_move rfl) ?_
                refine wl_gsplit (t := 42) rfl (fun hg42 => ?_) (fun hg42 => ?_)
                · -- 42 is True
                  refine wl_wanted_det rfl rfl rfl rfl rfl rfl rfl (op_fieldAddr (off := 3) rfl tF48_3h) ?_
                  refine wl_wanted_det rfl rfl rfl rfl rfl rfl rfl (op_loadA rfl tA24h (Ent.lab (l := 1) rfl (says_cel 3)) (Nat.le_of_ble_eq_true rfl)) ?_
                  refine wl_wanted_det rfl rfl rfl rfl rfl rfl rfl (op_build tB24h rfl rfl) ?_
                  refine wl_wanted_det rfl rfl rfl rfl rfl rfl rfl (op_neA rfl rfl tG24h (eq24 _ _ _ _)) ?_
                  refine wl_wanted_det rfl rfl rfl rfl rfl rfl rfl (op_pick_t rfl rfl) ?_
                  refine wl_det rfl rfl rfl (op_pick_f rfl rfl) ?_
                  refine wl_det rfl rfl rfl (op_assign rfl) ?_
                  refine wl_nil ?_
                  refine st_tn ?_
                  exact cut_done1 [1] hK rfl (by first | (rw [decide_eq_decide]; omega) | (symm; rw [decide_eq_false_iff_not]; omega) | (symm; rw [decide_eq_true_iff]; omega) | (simp; done) | (simp; omega) | (simp [*]; done) | (simp [*]; omega)) (by rfl) rfl rfl
                · -- 42 is False
                  refine wl_unwanted rfl rfl rfl rfl rfl rfl rfl rfl ?_
                  refine wl_unwanted rfl rfl rfl rfl rfl rfl rfl rfl ?_
                  refine wl_unwanted rfl rfl rfl rfl rfl rfl rfl rfl ?_
                  refine wl_unwanted rfl rfl rfl rfl rfl rfl rfl rfl ?_
                  refine wl_wanted_det rfl rfl rfl rfl rfl rfl rfl (op_pick_f rfl rfl) ?_
                  refine wl_det rfl rfl rfl (op_pick_f rfl rfl) ?_
                  refine wl_det rfl rfl rfl (op_assign rfl) ?_
                  refine wl_nil ?_
                  refine st_tn ?_
                  exact cut_done1 [1] hK rfl (by first | (rw [decide_eq_decide]; omega) | (symm; rw [decide_eq_false_iff_not]; omega) | (symm; rw [decide_eq_true_iff]; omega) | (simp; done) | (simp; omega) | (simp [*]; done) | (simp [*]; omega)) (by rfl) rfl rfl
            · -- 32 is False
              refine wl_unwanted rfl rfl rfl rfl rfl rfl rfl rfl ?_
              refine wl_unwanted rfl rfl rfl rfl rfl rfl rfl rfl ?_
              refine wl_unwanted rfl rfl rfl rfl rfl rfl rfl rfl ?_
              refine wl_unwanted rfl rfl rfl rfl rfl rfl rfl rfl ?_
              refine wl_det rfl rfl rfl (op_pick_f rfl rfl) ?_
              refine wl_det rfl rfl rfl (op_move rfl) ?_
              refine wl_wanted_det rfl rfl rfl rfl rfl rfl rfl (op_fieldAddr (off := 2) rfl tF48_2h) ?_
              refine wl_wanted_det rfl rfl rfl rfl rfl rfl rfl (op_load1 rfl tO3h (Ent.lab (l := 1) rfl (says_cel 2))) ?_
              refine wl_wanted_det rfl rfl rfl rfl rfl rfl rfl (op_neq rfl rfl) ?_
              refine wl_wanted_det rfl rfl rfl rfl rfl rfl rfl (op_move rfl) ?_
              refine wl_gsplit (t := 42) rfl (fun hg42 => ?_) (fun hg42 => ?_)
              · -- 42 is True
                refine wl_wanted_det rfl rfl rfl rfl rfl rfl rfl (op_fieldAddr (off := 3) rfl tF48_3h) ?_
                refine wl_wanted_det rfl rfl rfl rfl rfl rfl rfl (op_loadA rfl tA24h (Ent.lab (l := 1) rfl (says_cel 3)) (Nat.le_of_ble_eq_true rfl)) ?_
                refine wl_wanted_det rfl rfl rfl rfl rfl rfl rfl (op_build tB24h rfl rfl) ?_
                refine wl_wanted_det rfl rfl rfl rfl rfl rfl rfl (op_neA rfl rfl tG24h (eq24 _ _ _ _)) ?_
                refine wl_wanted_det rfl rfl rfl rfl rfl rfl rfl (op_pick_t rfl rfl) ?_
                refine wl_det rfl rfl rfl (op_pick_f rfl rfl) ?_
                refine wl_det rfl rfl rfl (op_assign rfl) ?_
                refine wl_nil ?_
                refine st_tn ?_
                exact cut_done1 [1] hK rfl (by first | (rw [decide_eq_decide]; omega) | (symm; rw [decide_eq_false_iff_not]; omega) | (symm; rw [decide_eq_true_iff]; omega) | (simp; done) | (simp; omega) | (simp [*]; done) | (simp [*]; omega)) (by rfl) rfl rfl
              · -- 42 is False
                refine wl_unwanted rfl rfl rfl rfl rfl rfl rfl rfl ?_
                refine wl_unwanted rfl rfl rfl rfl rfl rfl rfl rfl ?_
                refine wl_unwanted rfl rfl rfl rfl rfl rfl rfl rfl ?_
                refine wl_unwanted rfl rfl rfl rfl rfl rfl rfl rfl ?_
                refine wl_wanted_det rfl rfl rfl rfl rfl rfl rfl (op_pick_f rfl rfl) ?_
                refine wl_det rfl rfl rfl (op_pick_f rfl rfl) ?_
                refine wl_det rfl rfl rfl (op_assign rfl) ?_
                refine wl_nil ?_
                refine st_tn ?_
                exact cut_done1 [1] hK rfl (by first | (rw [decide_eq_decide]; omega) | (symm; rw [decide_eq_false_iff_not]; omega) | (symm; rw [decide_eq_true_iff]; omega) | (simp; done) | (simp; omega) | (simp [*]; done) | (simp [*]; omega)) (by rfl) rfl rfl
          · -- behind r5
            show W _ _ _ _ _ [(28, _), (1, _)] [(1, _)] _
            refine w_cond_d rfl (fun hc28 => ?_) (fun hc28 => ?_)
            · -- c28.t
              refine w_seq ?_
              refine w_region ?_
              refine wl_det rfl rfl rfl (op_assign rfl) ?_
              refine wl_nil ?_
              refine st_tn ?_
              refine w_ret ?_
              refine st_br ?_
              refine st_tr ?_
              refine st_ret (vs := [_]) [] Try.results30 ⟨rfl, trivial⟩ rfl ?_
              refine ⟨_, rfl, ?_⟩
              unfold chkE; rw [if_neg hc3, if_neg hc19, if_pos hc28]; exact ⟨rfl, rfl⟩
            · -- c28.f
              refine w_seq ?_
              refine w_cutL [(49, .bool (decide (fr < 0 ∨ fr > 1048576)))] [1] [1] rfl (fun K' hK => ?_) ?_
              · -- cut r7
                refine w_region ?_
                refine wl_det rfl rfl rfl (op_fieldAddr (off := 5) rfl tF48_4h) ?_
                refine wl_det rfl rfl rfl (op_load1 rfl tO3h (Ent.lab (l := 1) rfl (says_cel 5))) ?_
                refine wl_det rfl rfl rfl (op_lss rfl rfl) ?_
                refine wl_det rfl rfl rfl (op_move rfl) ?_
                refine wl_gsplit (t := 53) rfl (fun hg53 => ?_) (fun hg53 => ?_)
                · -- 53 is True
                  refine wl_unwanted rfl rfl rfl rfl rfl rfl rfl rfl ?_
                  refine wl_unwanted rfl rfl rfl rfl rfl rfl rfl rfl ?_
                  refine wl_unwanted rfl rfl rfl rfl rfl rfl rfl rfl ?_
                  refine wl_det rfl rfl rfl (op_pick_t rfl rfl) ?_
                  refine wl_det rfl rfl rfl (op_assign rfl) ?_
                  refine wl_nil ?_
                  refine st_tn ?_
                  exact cut_done1 [1] hK rfl (by first | (rw [decide_eq_decide]; omega) | (symm; rw [decide_eq_false_iff_not]; omega) | (symm; rw [decide_eq_true_iff]; omega) | (simp; done) | (simp; omega) | (simp [*]; done) | (simp [*]; omega)) (by rfl) rfl rfl
                · -- 53 is False
                  refine wl_wanted_det rfl rfl rfl rfl rfl rfl rfl (op_fieldAddr (off := 5) rfl tF48_4h) ?_
                  refine wl_wanted_det rfl rfl rfl rfl rfl rfl rfl (op_load1 rfl tO3h (Ent.lab (l := 1) rfl (says_cel 5))) ?_
                  refine wl_wanted_det rfl rfl rfl rfl rfl rfl rfl (op_gtr rfl rfl) ?_
                  refine wl_det rfl rfl rfl (op_pick_f rfl rfl) ?_
                  refine wl_det rfl rfl rfl (op_assign rfl) ?_
                  refine wl_nil ?_
                  refine st_tn ?_
                  exact cut_done1 [1] hK rfl (by first | (rw [decide_eq_decide]; omega) | (symm; rw [decide_eq_false_iff_not]; omega) | (symm; rw [decide_eq_true_iff]; omega) | (simp; done) | (simp; omega) | (simp [*]; done) | (simp [*]; omega)) (by rfl) rfl rfl
              · -- behind r7
                show W _ _ _ _ _ [(49, _), (1, _)] [(1, _)] _
                refine w_cond_d rfl (fun hc49 => ?_) (fun hc49 => ?_)
                · -- c49.t
                  refine w_seq ?_
                  refine w_region ?_
                  refine wl_det rfl rfl rfl (op_assign rfl) ?_
                  refine wl_nil ?_
                  refine st_tn ?_
                  refine w_ret ?_
                  refine st_br ?_
                  refine st_tr ?_
                  refine st_ret (vs := [_]) [] Try.results30 ⟨rfl, trivial⟩ rfl ?_
                  refine ⟨_, rfl, ?_⟩
                  unfold chkE; rw [if_neg hc3, if_neg hc19, if_neg hc28, if_pos hc49]; exact ⟨rfl, rfl⟩
                · -- c49.f
                  refine w_seq ?_
                  refine w_region ?_
                  refine wl_det rfl rfl rfl (op_fieldAddr (off := 6) rfl tF48_5h) ?_
                  refine wl_det rfl rfl rfl (op_load1 rfl tO25h (Ent.lab (l := 1) rfl (says_cel 6))) ?_
                  refine wl_det rfl rfl rfl (op_lenT rfl tS25h (Sl.ent (by first | exact Sl.app (by assumption) _ | exact Sl.app (Sl.app (by assumption) _) _))) ?_
                  refine wl_det rfl rfl rfl (op_gtr rfl rfl) ?_
                  refine wl_det rfl rfl rfl (op_assign rfl) ?_
                  refine wl_nil ?_
                  refine st_tn ?_
                  refine w_cond_d rfl (fun hc58 => ?_) (fun hc58 => ?_)
                  · -- c58.t
                    refine w_seq ?_
                    refine w_region ?_
                    refine wl_det rfl rfl rfl (op_assign rfl) ?_
                    refine wl_nil ?_
                    refine st_tn ?_
                    refine w_ret ?_
                    refine st_br ?_
                    refine st_tr ?_
                    refine st_ret (vs := [_]) [] Try.results30 ⟨rfl, trivial⟩ rfl ?_
                    refine ⟨_, rfl, ?_⟩
                    unfold chkE; rw [if_neg hc3, if_neg hc19, if_neg hc28, if_neg hc49, if_pos (by omega)]; exact ⟨rfl, rfl⟩
                  · -- c58.f
                    refine w_seq ?_
                    refine w_region ?_
                    refine wl_det rfl rfl rfl (op_fieldAddr (off := 5) rfl tF48_4h) ?_
                    refine wl_det rfl rfl rfl (op_load1 rfl tO3h (Ent.lab (l := 1) rfl (says_cel 5))) ?_
                    refine wl_det rfl rfl rfl (op_fieldAddr (off := 6) rfl tF48_5h) ?_
                    refine wl_det rfl rfl rfl (op_load1 rfl tO25h (Ent.lab (l := 1) rfl (says_cel 6))) ?_
                    refine wl_det rfl rfl rfl (op_lenT rfl tS25h (Sl.ent (by first | exact Sl.app (by assumption) _ | exact Sl.app (Sl.app (by assumption) _) _))) ?_
                    refine wl_det rfl rfl rfl (op_add' rfl rfl (by omega)) ?_
                    refine wl_det rfl rfl rfl (op_gtr rfl rfl) ?_
                    refine wl_det rfl rfl rfl (op_assign rfl) ?_
                    refine wl_nil ?_
                    refine st_tn ?_
                    refine w_cond_d rfl (fun hc63 => ?_) (fun hc63 => ?_)
                    · -- c63.t
                      refine w_seq ?_
                      refine w_region ?_
                      refine wl_det rfl rfl rfl (op_assign rfl) ?_
                      refine wl_nil ?_
                      refine st_tn ?_
                      refine w_ret ?_
                      refine st_br ?_
                      refine st_tr ?_
                      refine st_ret (vs := [_]) [] Try.results30 ⟨rfl, trivial⟩ rfl ?_
                      refine ⟨_, rfl, ?_⟩
                      unfold chkE; rw [if_neg hc3, if_neg hc19, if_neg hc28, if_neg hc49, if_neg (by omega), if_pos (by omega)]; exact ⟨rfl, rfl⟩
                    · -- c63.f
                      refine w_seq ?_
                      refine w_region ?_
                      refine wl_det rfl rfl rfl (op_fieldAddr (off := 6) rfl tF48_5h) ?_
                      refine wl_det rfl rfl rfl (op_load1 rfl tO25h (Ent.lab (l := 1) rfl (says_cel 6))) ?_
                      refine wl_det rfl rfl rfl (op_fn Try.func57 rfl rfl rfl (containsFuncI (fs := []) (cs := []) (p := fun x => decide (x < 0 ∨ x > 1099511627776)) (Sl.app h _) Try.func60 rfl rfl (fun X r => badv_any r))) ?_
                      refine wl_det rfl rfl rfl (op_assign rfl) ?_
                      refine wl_nil ?_
                      refine st_tn ?_
                      refine w_cond rfl (fun hc71 => ?_) (fun hc71 => ?_)
                      · -- c71.t
                        refine w_seq ?_
                        refine w_region ?_
                        refine wl_det rfl rfl rfl (op_assign rfl) ?_
                        refine wl_nil ?_
                        refine st_tn ?_
                        refine w_ret ?_
                        refine st_br ?_
                        refine st_tr ?_
                        refine st_ret (vs := [_]) [] Try.results30 ⟨rfl, trivial⟩ rfl ?_
                        refine ⟨_, rfl, ?_⟩
                        unfold chkE; rw [if_neg hc3, if_neg hc19, if_neg hc28, if_neg hc49, if_neg (by omega), if_neg (by omega), if_pos hc71]; exact ⟨rfl, rfl⟩
                      · -- c71.f
                        refine w_skip ?_
                        refine st_bn ?_
                        refine st_tn ?_
                        refine w_seq ?_
                        refine w_region ?_
                        refine wl_det rfl rfl rfl (op_assign rfl) ?_
                        refine wl_nil ?_
                        refine st_tn ?_
                        refine w_ret ?_
                        refine st_ret (vs := [_]) [] Try.results30 ⟨rfl, trivial⟩ rfl ?_
                        refine ⟨_, rfl, ?_⟩
                        unfold chkE; rw [if_neg hc3, if_neg hc19, if_neg hc28, if_neg hc49, if_neg (by omega), if_neg (by omega), if_neg (by rw [hc71]; simp)]; exact ⟨rfl, rfl⟩

set_option maxHeartbeats 1000000 in
set_option maxRecDepth 100000 in
theorem lcheck_any {σ : World} {F : List Res} {a : Option Addr} {c : Nat} {l : List Int} (k : SK) (fr : Int) (h : Sl σ F encZ 1 (.slice a l.length c) l) (hs : k.svc.size ≤ maxLen) (ho : k.op.size ≤ maxLen) (hx : -9223372036854775808 ≤ k.qn ∧ k.qn ≤ 9223372036854775807) (hy : -9223372036854775808 ≤ k.qd ∧ k.qd ≤ 9223372036854775807) :
    FnT Try.prog σ F 26 [sr k fr (.slice a l.length c)] [] (fun u ρ => u = .int .i64 (chkE k fr l) ∧ ρ = []) := by
  refine fn_of 93 Try.func26 rfl Try.ntmps26 rfl ?_
  have hle := h.i64
  refine w_seq ?_
  refine w_region ?_
  refine wl_op [] rfl rfl rfl rfl (op_box (T := 48) (l := 1) rfl) ?_
  rintro _ _ ⟨b1, rfl, rfl⟩
  refine wl_det rfl rfl rfl (op_assign rfl) ?_
  refine wl_nil ?_
  refine st_tn ?_
  refine w_seq ?_
  refine w_block ?_
  refine w_seq ?_
  refine w_cutL [(4, .bool (decide (¬ nameP k.svc ∨ (k.op ≠ ⟨#[]⟩ ∧ ¬ nameP k.op))))] [1] [1] rfl (fun K' hK => ?_) ?_
  · -- cut r1
    refine w_region ?_
    refine wl_det rfl rfl rfl (op_fieldAddr (off := 0) rfl tF48_0h) ?_
    refine wl_det rfl rfl rfl (op_load1 rfl tO9h (Ent.lab (l := 1) rfl (says_cel 0))) ?_
    refine wl_det rfl rfl rfl (op_fn Try.func59 rfl rfl rfl (isName_any _ (by assumption))) ?_
    refine wl_det rfl rfl rfl (op_not_d rfl) ?_
    refine wl_det rfl rfl rfl (op_move rfl) ?_
    refine wl_gsplit (t := 9) rfl (fun hg9 => ?_) (fun hg9 => ?_)
    · -- 9 is True
      refine wl_unwanted rfl rfl rfl rfl rfl rfl rfl rfl ?_
      refine wl_unwanted rfl rfl rfl rfl rfl rfl rfl rfl ?_
      refine wl_unwanted rfl rfl rfl rfl rfl rfl rfl rfl ?_
      refine wl_unwanted rfl rfl rfl rfl rfl rfl rfl rfl ?_
      refine wl_unwantedU rfl rfl rfl rfl rfl rfl rfl ?_
      refine wl_unwantedU rfl rfl rfl rfl rfl rfl rfl ?_
      refine wl_unwantedU rfl rfl rfl rfl rfl rfl rfl ?_
      refine wl_unwantedU rfl rfl rfl rfl rfl rfl rfl ?_
      refine wl_unwanted rfl rfl rfl rfl rfl rfl rfl rfl ?_
      refine wl_det rfl rfl rfl (op_pick_t rfl rfl) ?_
      refine wl_det rfl rfl rfl (op_assign rfl) ?_
      refine wl_nil ?_
      refine st_tn ?_
      exact cut_done1 [1] hK rfl (by first | (rw [decide_eq_decide]; omega) | (symm; rw [decide_eq_false_iff_not]; omega) | (symm; rw [decide_eq_true_iff]; omega) | (simp; done) | (simp; omega) | (simp [*]; done) | (simp [*]; omega)) (by rfl) rfl rfl
    · -- 9 is False
      refine wl_wanted_det rfl rfl rfl rfl rfl rfl rfl (op_fieldAddr (off := 1) rfl tF48_1h) ?_
      refine wl_wanted_det rfl rfl rfl rfl rfl rfl rfl (op_load1 rfl tO9h (Ent.lab (l := 1) rfl (says_cel 1))) ?_
      refine wl_wanted_det rfl rfl rfl rfl rfl rfl rfl (op_neStr rfl rfl) ?_
      refine wl_wanted_det rfl rfl rfl rfl rfl rfl rfl (op_move rfl) ?_
      refine wl_gsplit (t := 13) rfl (fun hg13 => ?_) (fun hg13 => ?_)
      · -- 13 is True
        refine wl_wanted_det rfl rfl rfl rfl rfl rfl rfl (op_fieldAddr (off := 1) rfl tF48_1h) ?_
        refine wl_wanted_det rfl rfl rfl rfl rfl rfl rfl (op_load1 rfl tO9h (Ent.lab (l := 1) rfl (says_cel 1))) ?_
        refine wl_wanted_det rfl rfl rfl rfl rfl rfl rfl (op_fn Try.func59 rfl rfl rfl (isName_any _ (by assumption))) ?_
        refine wl_wanted_det rfl rfl rfl rfl rfl rfl rfl (op_not_d rfl) ?_
        refine wl_wanted_det rfl rfl rfl rfl rfl rfl rfl (op_pick_t rfl rfl) ?_
        refine wl_det rfl rfl rfl (op_pick_f rfl rfl) ?_
        refine wl_det rfl rfl rfl (op_assign rfl) ?_
        refine wl_nil ?_
        refine st_tn ?_
        exact cut_done1 [1] hK rfl (by first | (rw [decide_eq_decide]; omega) | (symm; rw [decide_eq_false_iff_not]; omega) | (symm; rw [decide_eq_true_iff]; omega) | (simp; done) | (simp; omega) | (simp [*]; done) | (simp [*]; omega)) (by rfl) rfl rfl
      · -- 13 is False
        refine wl_unwanted rfl rfl rfl rfl rfl rfl rfl rfl ?_
        refine wl_unwanted rfl rfl rfl rfl rfl rfl rfl rfl ?_
        refine wl_unwanted rfl rfl rfl rfl rfl rfl rfl rfl ?_
        refine wl_unwanted rfl rfl rfl rfl rfl rfl rfl rfl ?_
        refine wl_wanted_det rfl rfl rfl rfl rfl rfl rfl (op_pick_f rfl rfl) ?_
        refine wl_det rfl rfl rfl (op_pick_f rfl rfl) ?_
        refine wl_det rfl rfl rfl (op_assign rfl) ?_
        refine wl_nil ?_
        refine st_tn ?_
        exact cut_done1 [1] hK rfl (by first | (rw [decide_eq_decide]; omega) | (symm; rw [decide_eq_false_iff_not]; omega) | (symm; rw [decide_eq_true_iff]; omega) | (simp; done) | (simp; omega) | (simp [*]; done) | (simp [*]; omega)) (by rfl) rfl rfl
  · -- behind r1
    show W _ _ _ _ _ [(4, _), (1, _)] [(1, _)] _
    refine w_cond_d rfl (fun hc4 => ?_) (fun hc4 => ?_)
    · -- c4.t
      refine w_seq ?_
      refine w_region ?_
      refine wl_det rfl rfl rfl (op_assign rfl) ?_
      refine wl_nil ?_
      refine st_tn ?_
      refine w_ret ?_
      refine st_br ?_
      refine st_tr ?_
      refine st_ret (vs := [_]) [] Try.results26 ⟨rfl, trivial⟩ rfl ?_
      refine ⟨_, rfl, ?_⟩
      unfold chkE; rw [if_pos hc4]; exact ⟨rfl, rfl⟩
    · -- c4.f
      refine w_seq ?_
      refine w_cutL [(20, .bool (decide (k.met < 1 ∨ k.met > 3)))] [1] [1] rfl (fun K' hK => ?_) ?_
      · -- cut r3
        refine w_region ?_
        refine wl_det rfl rfl rfl (op_fieldAddr (off := 2) rfl tF48_2h) ?_
        refine wl_det rfl rfl rfl (op_load1 rfl tO3h (Ent.lab (l := 1) rfl (says_cel 2))) ?_
        refine wl_det rfl rfl rfl (op_lss rfl rfl) ?_
        refine wl_det rfl rfl rfl (op_move rfl) ?_
        refine wl_gsplit (t := 24) rfl (fun hg24 => ?_) (fun hg24 => ?_)
        · -- 24 is True
          refine wl_unwanted rfl rfl rfl rfl rfl rfl rfl rfl ?_
          refine wl_unwanted rfl rfl rfl rfl rfl rfl rfl rfl ?_
          refine wl_unwanted rfl rfl rfl rfl rfl rfl rfl rfl ?_
          refine wl_det rfl rfl rfl (op_pick_t rfl rfl) ?_
          refine wl_det rfl rfl rfl (op_assign rfl) ?_
          refine wl_nil ?_
          refine st_tn ?_
          exact cut_done1 [1] hK rfl (by first | (rw [decide_eq_decide]; omega) | (symm; rw [decide_eq_false_iff_not]; omega) | (symm; rw [decide_eq_true_iff]; omega) | (simp; done) | (simp; omega) | (simp [*]; done) | (simp [*]; omega)) (by rfl) rfl rfl
        · -- 24 is False
          refine wl_wanted_det rfl rfl rfl rfl rfl rfl rfl (op_fieldAddr (off := 2) rfl tF48_2h) ?_
          refine wl_wanted_det rfl rfl rfl rfl rfl rfl rfl (op_load1 rfl tO3h (Ent.lab (l := 1) rfl (says_cel 2))) ?_
          refine wl_wanted_det rfl rfl rfl rfl rfl rfl rfl (op_gtr rfl rfl) ?_
          refine wl_det rfl rfl rfl (op_pick_f rfl rfl) ?_
          refine wl_det rfl rfl rfl (op_assign rfl) ?_
          refine wl_nil ?_
          refine st_tn ?_
          exact cut_done1 [1] hK rfl (by first | (rw [decide_eq_decide]; omega) | (symm; rw [decide_eq_false_iff_not]; omega) | (symm; rw [decide_eq_true_iff]; omega) | (simp; done) | (simp; omega) | (simp [*]; done) | (simp [*]; omega)) (by rfl) rfl rfl
      · -- behind r3
        show W _ _ _ _ _ [(20, _), (1, _)] [(1, _)] _
        refine w_cond_d rfl (fun hc20 => ?_) (fun hc20 => ?_)
        · -- c20.t
          refine w_seq ?_
          refine w_region ?_
          refine wl_det rfl rfl rfl (op_assign rfl) ?_
          refine wl_nil ?_
          refine st_tn ?_
          refine w_ret ?_
          refine st_br ?_
          refine st_tr ?_
          refine st_ret (vs := [_]) [] Try.results26 ⟨rfl, trivial⟩ rfl ?_
          refine ⟨_, rfl, ?_⟩
          unfold chkE; rw [if_neg hc4, if_pos hc20]; exact ⟨rfl, rfl⟩
        · -- c20.f
          refine w_seq ?_
          refine w_cutL [(29, .bool (decide ((k.met = 3 ∧ ¬ goodB k.qn k.qd) ∨ (k.met ≠ 3 ∧ ¬ (k.qn, k.qd) = (0, 0)))))] [1] [1] rfl (fun K' hK => ?_) ?_
          · -- cut r5
            refine w_region ?_
            refine wl_det rfl rfl rfl (op_fieldAddr (off := 2) rfl tF48_2h) ?_
            refine wl_det rfl rfl rfl (op_load1 rfl tO3h (Ent.lab (l := 1) rfl (says_cel 2))) ?_
            refine wl_det rfl rfl rfl (op_eql rfl rfl) ?_
            refine wl_det rfl rfl rfl (op_move rfl) ?_
            refine wl_gsplit (t := 33) rfl (fun hg33 => ?_) (fun hg33 => ?_)
            · -- 33 is True
              refine wl_wanted_det rfl rfl rfl rfl rfl rfl rfl (op_fieldAddr (off := 3) rfl tF48_3h) ?_
              refine wl_wanted_det rfl rfl rfl rfl rfl rfl rfl (op_loadA rfl tA24h (Ent.lab (l := 1) rfl (says_cel 3)) (Nat.le_of_ble_eq_true rfl)) ?_
              refine wl_wanted_det rfl rfl rfl rfl rfl rfl rfl (op_fn Try.func17 rfl rfl rfl (good_any _ _ (by omega) (by omega))) ?_
              refine wl_wanted_det rfl rfl rfl rfl rfl rfl rfl (op_not_d rfl) ?_
              refine wl_det rfl rfl rfl (op_pick_t rfl rfl) ?_
              refine wl_det rfl rfl rfl (op_move rfl) ?_
              refine wl_gsplit (t := 39) rfl (fun hg39 => ?_) (fun hg39 => ?_)
              · -- 39 is True
                refine wl_unwanted rfl rfl rfl rfl rfl rfl rfl rfl ?_
                refine wl_unwanted rfl rfl rfl rfl rfl rfl rfl rfl ?_
                refine wl_unwanted rfl rfl rfl rfl rfl rfl rfl rfl ?_
                refine wl_unwanted rfl rfl rfl rfl rfl rfl rfl rfl ?_
                refine wl_unwantedU rfl rfl rfl rfl rfl rfl rfl ?_
                refine wl_unwantedU rfl rfl rfl rfl rfl rfl rfl ?_
                refine wl_unwantedU rfl rfl rfl rfl rfl rfl rfl ?_
                refine wl_unwantedU rfl rfl rfl rfl rfl rfl rfl ?_
                refine wl_unwanted rfl rfl rfl rfl rfl rfl rfl rfl ?_
                refine wl_det rfl rfl rfl (op_pick_t rfl rfl) ?_
                refine wl_det rfl rfl rfl (op_assign rfl) ?_
                refine wl_nil ?_
                refine st_tn ?_
                exact cut_done1 [1] hK rfl (by first | (rw [decide_eq_decide]; omega) | (symm; rw [decide_eq_false_iff_not]; omega) | (symm; rw [decide_eq_true_iff]; omega) | (simp; done) | (simp; omega) | (simp [*]; done) | (simp [*]; omega)) (by rfl) rfl rfl
              · -- 39 is False
                refine wl_wanted_det rfl rfl rfl rfl rfl rfl rfl (op_fieldAddr (off := 2) rfl tF48_2h) ?_
                refine wl_wanted_det rfl rfl rfl rfl rfl rfl rfl (op_load1 rfl tO3h (Ent.lab (l := 1) rfl (says_cel 2))) ?_
                refine wl_wanted_det rfl rfl rfl rfl rfl rfl rfl (op_neq rfl rfl) ?_
                refine wl_wanted_det rfl rfl rfl rfl rfl rfl rfl (op_move rfl) ?_
                refine wl_gsplit (t := 43) rfl (fun hg43 => ?_) (fun hg43 => ?_)
                · -- 43 is True
                  refine wl_wanted_det rfl rfl rfl rfl rfl rfl rfl (op_fieldAddr (off := 3) rfl tF48_3h) ?_
                  refine wl_wanted_det rfl rfl rfl rfl rfl rfl rfl (op_loadA rfl tA24h (Ent.lab (l := 1) rfl (says_cel 3)) (Nat.le_of_ble_eq_true rfl)) ?_
                  refine wl_wanted_det rfl rfl rfl rfl rfl rfl rfl (op_build tB24h rfl rfl) ?_
                  refine wl_wanted_det rfl rfl rfl rfl rfl rfl rfl (op_neA rfl rfl tG24h (eq24 _ _ _ _)) ?_
                  refine wl_wanted_det rfl rfl rfl rfl rfl rfl rfl (op_pick_t rfl rfl) ?_
                  refine wl_det rfl rfl rfl (op_pick_f rfl rfl) ?_
                  refine wl_det rfl rfl rfl (op_assign rfl) ?_
                  refine wl_nil ?_
                  refine st_tn ?_
                  exact cut_done1 [1] hK rfl (by first | (rw [decide_eq_decide]; omega) | (symm; rw [decide_eq_false_iff_not]; omega) | (symm; rw [decide_eq_true_iff]; omega) | (simp; done) | (simp; omega) | (simp [*]; done) | (simp [*]; omega)) (by rfl) rfl rfl
                · -- 43 is False
                  refine wl_unwanted rfl rfl rfl rfl rfl rfl rfl rfl ?_
                  refine wl_unwanted rfl rfl rfl rfl rfl rfl rfl rfl ?_
                  refine wl_unwanted rfl rfl rfl rfl rfl rfl rfl rfl ?_
                  refine wl_unwanted rfl rfl rfl rfl rfl rfl rfl rfl ?_
                  refine wl_wanted_det rfl rfl rfl rfl rfl rfl rfl (op_pick_f rfl rfl) ?_
                  refine wl_det rfl rfl rfl (op_pick_f rfl rfl) ?_
                  refine wl_det rfl rfl rfl (op_assign rfl) ?_
                  refine wl_nil ?_
                  refine st_tn ?_
                  exact cut_done1 [1] hK rfl (by first | (rw [decide_eq_decide]; omega) | (symm; rw [decide_eq_false_iff_not]; omega) | (symm; rw [decide_eq_true_iff]; omega) | (simp; done) | (simp; omega) | (simp [*]; done) | (simp [*]; omega)) (by rfl) rfl rfl
            · -- 33 is False
              refine wl_unwanted rfl rfl rfl rfl rfl rfl rfl rfl ?_
              refine wl_unwanted rfl rfl rfl rfl rfl rfl rfl rfl ?_
              refine wl_unwanted rfl rfl rfl rfl rfl rfl rfl rfl ?_
              refine wl_unwanted rfl rfl rfl rfl rfl rfl rfl rfl ?_
              refine wl_det rfl rfl rfl (op_pick_f rfl rfl) ?_
              refine wl_det rfl rfl rfl (op_move rfl) ?_
              refine wl_wanted_det rfl rfl rfl rfl rfl rfl rfl (op_fieldAddr (off := 2) rfl tF48_2h) ?_
              refine wl_wanted_det rfl rfl rfl rfl rfl rfl rfl (op_load1 rfl tO3h (Ent.lab (l := 1) rfl (says_cel 2))) ?_
              refine wl_wanted_det rfl rfl rfl rfl rfl rfl rfl (op_neq rfl rfl) ?_
              refine wl_wanted_det rfl rfl rfl rfl rfl rfl rfl (op_move rfl) ?_
              refine wl_gsplit (t := 43) rfl (fun hg43 => ?_) (fun hg43 => ?_)
              · -- 43 is True
                refine wl_wanted_det rfl rfl rfl rfl rfl rfl rfl (op_fieldAddr (off := 3) rfl tF48_3h) ?_
                refine wl_wanted_det rfl rfl rfl rfl rfl rfl rfl (op_loadA rfl tA24h (Ent.lab (l := 1) rfl (says_cel 3)) (Nat.le_of_ble_eq_true rfl)) ?_
                refine wl_wanted_det rfl rfl rfl rfl rfl rfl rfl (op_build tB24h rfl rfl) ?_
                refine wl_wanted_det rfl rfl rfl rfl rfl rfl rfl (op_neA rfl rfl tG24h (eq24 _ _ _ _)) ?_
                refine wl_wanted_det rfl rfl rfl rfl rfl rfl rfl (op_pick_t rfl rfl) ?_
                refine wl_det rfl rfl rfl (op_pick_f rfl rfl) ?_
                refine wl_det rfl rfl rfl (op_assign rfl) ?_
                refine wl_nil ?_
                refine st_tn ?_
                exact cut_done1 [1] hK rfl (by first | (rw [decide_eq_decide]; omega) | (symm; rw [decide_eq_false_iff_not]; omega) | (symm; rw [decide_eq_true_iff]; omega) | (simp; done) | (simp; omega) | (simp [*]; done) | (simp [*]; omega)) (by rfl) rfl rfl
              · -- 43 is False
                refine wl_unwanted rfl rfl rfl rfl rfl rfl rfl rfl ?_
                refine wl_unwanted rfl rfl rfl rfl rfl rfl rfl rfl ?_
                refine wl_unwanted rfl rfl rfl rfl rfl rfl rfl rfl ?_
                refine wl_unwanted rfl rfl rfl rfl rfl rfl rfl rfl ?_
                refine wl_wanted_det rfl rfl rfl rfl rfl rfl rfl (op_pick_f rfl rfl) ?_
                refine wl_det rfl rfl rfl (op_pick_f rfl rfl) ?_
                refine wl_det rfl rfl rfl (op_assign rfl) ?_
                refine wl_nil ?_
                refine st_tn ?_
                exact cut_done1 [1] hK rfl (by first | (rw [decide_eq_decide]; omega) | (symm; rw [decide_eq_false_iff_not]; omega) | (symm; rw [decide_eq_true_iff]; omega) | (simp; done) | (simp; omega) | (simp [*]; done) | (simp [*]; omega)) (by rfl) rfl rfl
          · -- behind r5
            show W _ _ _ _ _ [(29, _), (1, _)] [(1, _)] _
            refine w_cond_d rfl (fun hc29 => ?_) (fun hc29 => ?_)
            · -- c29.t
              refine w_seq ?_
              refine w_region ?_
              refine wl_det rfl rfl rfl (op_assign rfl) ?_
              refine wl_nil ?_
              refine st_tn ?_
              refine w_ret ?_
              refine st_br ?_
              refine st_tr ?_
              refine st_ret (vs := [_]) [] Try.results26 ⟨rfl, trivial⟩ rfl ?_
              refine ⟨_, rfl, ?_⟩
              unfold chkE; rw [if_neg hc4, if_neg hc20, if_pos hc29]; exact ⟨rfl, rfl⟩
            · -- c29.f
              refine w_seq ?_
              refine w_cutL [(50, .bool (decide (fr < 0 ∨ fr > 1048576)))] [1] [1] rfl (fun K' hK => ?_) ?_
              · -- cut r7
                refine w_region ?_
                refine wl_det rfl rfl rfl (op_fieldAddr (off := 5) rfl tF48_4h) ?_
                refine wl_det rfl rfl rfl (op_load1 rfl tO3h (Ent.lab (l := 1) rfl (says_cel 5))) ?_
                refine wl_det rfl rfl rfl (op_lss rfl rfl) ?_
                refine wl_det rfl rfl rfl (op_move rfl) ?_
                refine wl_gsplit (t := 54) rfl (fun hg54 => ?_) (fun hg54 => ?_)
                · -- 54 is True
                  refine wl_unwanted rfl rfl rfl rfl rfl rfl rfl rfl ?_
                  refine wl_unwanted rfl rfl rfl rfl rfl rfl rfl rfl ?_
                  refine wl_unwanted rfl rfl rfl rfl rfl rfl rfl rfl ?_
                  refine wl_det rfl rfl rfl (op_pick_t rfl rfl) ?_
                  refine wl_det rfl rfl rfl (op_assign rfl) ?_
                  refine wl_nil ?_
                  refine st_tn ?_
                  exact cut_done1 [1] hK rfl (by first | (rw [decide_eq_decide]; omega) | (symm; rw [decide_eq_false_iff_not]; omega) | (symm; rw [decide_eq_true_iff]; omega) | (simp; done) | (simp; omega) | (simp [*]; done) | (simp [*]; omega)) (by rfl) rfl rfl
                · -- 54 is False
                  refine wl_wanted_det rfl rfl rfl rfl rfl rfl rfl (op_fieldAddr (off := 5) rfl tF48_4h) ?_
                  refine wl_wanted_det rfl rfl rfl rfl rfl rfl rfl (op_load1 rfl tO3h (Ent.lab (l := 1) rfl (says_cel 5))) ?_
                  refine wl_wanted_det rfl rfl rfl rfl rfl rfl rfl (op_gtr rfl rfl) ?_
                  refine wl_det rfl rfl rfl (op_pick_f rfl rfl) ?_
                  refine wl_det rfl rfl rfl (op_assign rfl) ?_
                  refine wl_nil ?_
                  refine st_tn ?_
                  exact cut_done1 [1] hK rfl (by first | (rw [decide_eq_decide]; omega) | (symm; rw [decide_eq_false_iff_not]; omega) | (symm; rw [decide_eq_true_iff]; omega) | (simp; done) | (simp; omega) | (simp [*]; done) | (simp [*]; omega)) (by rfl) rfl rfl
              · -- behind r7
                show W _ _ _ _ _ [(50, _), (1, _)] [(1, _)] _
                refine w_cond_d rfl (fun hc50 => ?_) (fun hc50 => ?_)
                · -- c50.t
                  refine w_seq ?_
                  refine w_region ?_
                  refine wl_det rfl rfl rfl (op_assign rfl) ?_
                  refine wl_nil ?_
                  refine st_tn ?_
                  refine w_ret ?_
                  refine st_br ?_
                  refine st_tr ?_
                  refine st_ret (vs := [_]) [] Try.results26 ⟨rfl, trivial⟩ rfl ?_
                  refine ⟨_, rfl, ?_⟩
                  unfold chkE; rw [if_neg hc4, if_neg hc20, if_neg hc29, if_pos hc50]; exact ⟨rfl, rfl⟩
                · -- c50.f
                  refine w_seq ?_
                  refine w_region ?_
                  refine wl_det rfl rfl rfl (op_fieldAddr (off := 6) rfl tF48_5h) ?_
                  refine wl_det rfl rfl rfl (op_load1 rfl tO25h (Ent.lab (l := 1) rfl (says_cel 6))) ?_
                  refine wl_det rfl rfl rfl (op_lenT rfl tS25h (Sl.ent (by first | exact Sl.app (by assumption) _ | exact Sl.app (Sl.app (by assumption) _) _))) ?_
                  refine wl_det rfl rfl rfl (op_gtr rfl rfl) ?_
                  refine wl_det rfl rfl rfl (op_assign rfl) ?_
                  refine wl_nil ?_
                  refine st_tn ?_
                  refine w_cond_d rfl (fun hc59 => ?_) (fun hc59 => ?_)
                  · -- c59.t
                    refine w_seq ?_
                    refine w_region ?_
                    refine wl_det rfl rfl rfl (op_assign rfl) ?_
                    refine wl_nil ?_
                    refine st_tn ?_
                    refine w_ret ?_
                    refine st_br ?_
                    refine st_tr ?_
                    refine st_ret (vs := [_]) [] Try.results26 ⟨rfl, trivial⟩ rfl ?_
                    refine ⟨_, rfl, ?_⟩
                    unfold chkE; rw [if_neg hc4, if_neg hc20, if_neg hc29, if_neg hc50, if_pos (by omega)]; exact ⟨rfl, rfl⟩
                  · -- c59.f
                    refine w_seq ?_
                    refine w_region ?_
                    refine wl_det rfl rfl rfl (op_fieldAddr (off := 5) rfl tF48_4h) ?_
                    refine wl_det rfl rfl rfl (op_load1 rfl tO3h (Ent.lab (l := 1) rfl (says_cel 5))) ?_
                    refine wl_det rfl rfl rfl (op_fieldAddr (off := 6) rfl tF48_5h) ?_
                    refine wl_det rfl rfl rfl (op_load1 rfl tO25h (Ent.lab (l := 1) rfl (says_cel 6))) ?_
                    refine wl_det rfl rfl rfl (op_lenT rfl tS25h (Sl.ent (by first | exact Sl.app (by assumption) _ | exact Sl.app (Sl.app (by assumption) _) _))) ?_
                    refine wl_det rfl rfl rfl (op_add' rfl rfl (by omega)) ?_
                    refine wl_det rfl rfl rfl (op_gtr rfl rfl) ?_
                    refine wl_det rfl rfl rfl (op_assign rfl) ?_
                    refine wl_nil ?_
                    refine st_tn ?_
                    refine w_cond_d rfl (fun hc64 => ?_) (fun hc64 => ?_)
                    · -- c64.t
                      refine w_seq ?_
                      refine w_region ?_
                      refine wl_det rfl rfl rfl (op_assign rfl) ?_
                      refine wl_nil ?_
                      refine st_tn ?_
                      refine w_ret ?_
                      refine st_br ?_
                      refine st_tr ?_
                      refine st_ret (vs := [_]) [] Try.results26 ⟨rfl, trivial⟩ rfl ?_
                      refine ⟨_, rfl, ?_⟩
                      unfold chkE; rw [if_neg hc4, if_neg hc20, if_neg hc29, if_neg hc50, if_neg (by omega), if_pos (by omega)]; exact ⟨rfl, rfl⟩
                    · -- c64.f
                      refine w_skip ?_
                      refine st_bn ?_
                      refine st_tn ?_
                      refine w_seq ?_
                      refine w_seq ?_
                      refine w_region ?_
                      refine wl_det rfl rfl rfl (op_assign rfl) ?_
                      refine wl_nil ?_
                      refine st_tn ?_
                      refine w_block ?_
                      refine w_loopQ (X := Nat) (fun z => z ≤ l.length ∧ ∀ x ∈ l.take z, ¬ (x < 0 ∨ x > 1099511627776)) (fun z => [(3, .int .i64 (z))]) (fun _ => []) (fun z => l.length - z) (0) [(1, _)] [(1, _)] [1] rfl (rfl) (.cons rfl (.nil _)) (.cons rfl (.nil _)) (by
                          try dsimp only
                          exact ⟨Nat.zero_le _, by simp⟩) ?_
                      rintro i ⟨hi, hn⟩
                      refine w_norm2 (by dsimp only [List.cons_append, List.nil_append]) (by dsimp only [List.cons_append, List.nil_append]) ?_
                      try dsimp only at hi hn ⊢
                      refine w_seq ?_
                      refine w_seq ?_
                      refine w_region ?_
                      refine wl_det rfl rfl rfl (op_move rfl) ?_
                      refine wl_det rfl rfl rfl (op_fieldAddr (off := 6) rfl tF48_5h) ?_
                      refine wl_det rfl rfl rfl (op_load1 rfl tO25h (Ent.lab (l := 1) rfl (says_cel 6))) ?_
                      refine wl_det rfl rfl rfl (op_lenT rfl tS25h (Sl.ent (by first | exact Sl.app (by assumption) _ | exact Sl.app (Sl.app (by assumption) _) _))) ?_
                      refine wl_det rfl rfl rfl (op_lss rfl rfl) ?_
                      refine wl_nil ?_
                      refine st_tn ?_
                      refine w_cond_d rfl (fun hc76 => ?_) (fun hc76 => ?_)
                      · -- c76.t
                        obtain ⟨x, hz⟩ := getE (l := l) (i := i) (by omega)
                        refine w_skip ?_
                        refine st_tn ?_
                        refine w_seq ?_
                        refine w_block ?_
                        refine w_seq ?_
                        refine w_cutL [(92, .bool (decide (x < 0 ∨ x > 1099511627776)))] [1, 3] [1] rfl (fun K' hK => ?_) ?_
                        · -- cut r16
                          refine w_region ?_
                          refine wl_det rfl rfl rfl (op_fieldAddr (off := 6) rfl tF48_5h) ?_
                          refine wl_det rfl rfl rfl (op_load1 rfl tO25h (Ent.lab (l := 1) rfl (says_cel 6))) ?_
                          refine wl_det rfl rfl rfl (op_move rfl) ?_
                          refine wl_det rfl rfl rfl (op_idx rfl rfl tS25h (Sl.ent (by first | exact Sl.app (by assumption) _ | exact Sl.app (Sl.app (by assumption) _) _)) (by omega)) ?_
                          refine wl_det rfl rfl rfl (op_ldx rfl tO3h (by first | exact Sl.app (by assumption) _ | exact Sl.app (Sl.app (by assumption) _) _) (by assumption) (by rfl)) ?_
                          refine wl_det rfl rfl rfl (op_lss rfl rfl) ?_
                          refine wl_det rfl rfl rfl (op_move rfl) ?_
                          refine wl_gsplit (t := 85) rfl (fun hg85 => ?_) (fun hg85 => ?_)
                          · -- 85 is True
                            refine wl_unwanted rfl rfl rfl rfl rfl rfl rfl rfl ?_
                            refine wl_unwanted rfl rfl rfl rfl rfl rfl rfl rfl ?_
                            refine wl_unwanted rfl rfl rfl rfl rfl rfl rfl rfl ?_
                            refine wl_unwanted rfl rfl rfl rfl rfl rfl rfl rfl ?_
                            refine wl_unwanted rfl rfl rfl rfl rfl rfl rfl rfl ?_
                            refine wl_unwanted rfl rfl rfl rfl rfl rfl rfl rfl ?_
                            refine wl_det rfl rfl rfl (op_pick_t rfl rfl) ?_
                            refine wl_nil ?_
                            refine st_tn ?_
                            exact cut_done1 [1] hK rfl (by first | (rw [decide_eq_decide]; omega) | (symm; rw [decide_eq_false_iff_not]; omega) | (symm; rw [decide_eq_true_iff]; omega) | (simp; done) | (simp; omega) | (simp [*]; done) | (simp [*]; omega)) (by rfl) rfl rfl
                          · -- 85 is False
                            refine wl_wanted_det rfl rfl rfl rfl rfl rfl rfl (op_fieldAddr (off := 6) rfl tF48_5h) ?_
                            refine wl_wanted_det rfl rfl rfl rfl rfl rfl rfl (op_load1 rfl tO25h (Ent.lab (l := 1) rfl (says_cel 6))) ?_
                            refine wl_wanted_det rfl rfl rfl rfl rfl rfl rfl (op_move rfl) ?_
                            refine wl_wanted_det rfl rfl rfl rfl rfl rfl rfl (op_idx rfl rfl tS25h (Sl.ent (by first | exact Sl.app (by assumption) _ | exact Sl.app (Sl.app (by assumption) _) _)) (by omega)) ?_
                            refine wl_wanted_det rfl rfl rfl rfl rfl rfl rfl (op_ldx rfl tO3h (by first | exact Sl.app (by assumption) _ | exact Sl.app (Sl.app (by assumption) _) _) (by assumption) (by rfl)) ?_
                            refine wl_wanted_det rfl rfl rfl rfl rfl rfl rfl (op_gtr rfl rfl) ?_
                            refine wl_det rfl rfl rfl (op_pick_f rfl rfl) ?_
                            refine wl_nil ?_
                            refine st_tn ?_
                            exact cut_done1 [1] hK rfl (by first | (rw [decide_eq_decide]; omega) | (symm; rw [decide_eq_false_iff_not]; omega) | (symm; rw [decide_eq_true_iff]; omega) | (simp; done) | (simp; omega) | (simp [*]; done) | (simp [*]; omega)) (by rfl) rfl rfl
                        · -- behind r16
                          show W _ _ _ _ _ [(92, _), (1, _), (3, _)] [(1, _)] _
                          refine w_cond_d rfl (fun hc92 => ?_) (fun hc92 => ?_)
                          · -- c92.t
                            refine w_seq ?_
                            refine w_region ?_
                            refine wl_det rfl rfl rfl (op_assign rfl) ?_
                            refine wl_nil ?_
                            refine st_tn ?_
                            refine w_ret ?_
                            refine st_br ?_
                            refine st_tr ?_
                            refine st_tr ?_
                            refine st_br ?_
                            refine st_tr ?_
                            refine st_ret (vs := [_]) [] Try.results26 ⟨rfl, trivial⟩ rfl ?_
                            refine ⟨_, rfl, ?_⟩
                            unfold chkE; rw [if_neg hc4, if_neg hc20, if_neg hc29, if_neg hc50, if_neg (by omega), if_neg (by omega), if_pos (List.any_eq_true.2 ⟨x, List.mem_of_getElem? hz, decide_eq_true hc92⟩)]; exact ⟨rfl, rfl⟩
                          · -- c92.f
                            refine w_skip ?_
                            refine st_bn ?_
                            refine st_tn ?_
                            refine w_region ?_
                            refine wl_det rfl rfl rfl (op_move rfl) ?_
                            refine wl_det rfl rfl rfl (op_add' rfl rfl (by omega)) ?_
                            refine wl_det rfl rfl rfl (op_assign rfl) ?_
                            refine wl_nil ?_
                            refine st_roundQ (x := i) (i + 1) [1] rfl (rfl) (.cons rfl (.nil _)) (.cons rfl (.nil _)) (by
                                try dsimp only
                                refine ⟨by omega, by rw [take_snoc hz]; intro q hq; rcases List.mem_append.1 hq with hq | hq; (· exact hn q hq); (· simp only [List.mem_singleton] at hq; subst hq; exact hc92)⟩) (by
                                try dsimp only
                                omega) 
                      · -- c76.f
                        refine w_exit ?_
                        refine st_te ?_
                        refine st_te ?_
                        refine st_be ?_
                        refine st_tn ?_
                        refine w_seq ?_
                        refine w_region ?_
                        refine wl_det rfl rfl rfl (op_assign rfl) ?_
                        refine wl_nil ?_
                        refine st_tn ?_
                        refine w_ret ?_
                        refine st_ret (vs := [_]) [] Try.results26 ⟨rfl, trivial⟩ rfl ?_
                        refine ⟨_, rfl, ?_⟩
                        rw [take_all (by omega)] at hn; unfold chkE; rw [if_neg hc4, if_neg hc20, if_neg hc29, if_neg hc50, if_neg (by omega), if_neg (by omega), if_neg (fun h1 => by obtain ⟨x, hx, h2⟩ := List.any_eq_true.1 h1; exact hn x hx (of_decide_eq_true h2))]; exact ⟨rfl, rfl⟩

/-- Two series measure the same. -/
def sameK (k m : SK) : Prop := k.svc = m.svc ∧ k.op = m.op ∧ k.met = m.met ∧ (k.qn, k.qd) = (m.qn, m.qd)
instance (k m : SK) : Decidable (sameK k m) := by unfold sameK; infer_instance
theorem sameK_eq {k m : SK} : sameK k m ↔ k = m := by
  unfold sameK
  constructor
  · rintro ⟨h1, h2, h3, h4⟩; cases k; cases m; simp_all
  · rintro rfl; exact ⟨rfl, rfl, rfl, rfl⟩
set_option maxHeartbeats 400000 in
set_option maxRecDepth 100000 in
theorem same_any {σ : World} {F : List Res} {v w : Value} (k m : SK) (fr fr' : Int) :
    FnT Try.prog σ F 31 [sr k fr v, sr m fr' w] [] (fun u ρ => u = .bool (decide (sameK k m)) ∧ ρ = []) := by
  refine fn_of 31 Try.func31 rfl Try.ntmps31 rfl ?_
  refine w_seq ?_
  refine w_region ?_
  refine wl_op [] rfl rfl rfl rfl (op_box (T := 48) (l := 2) rfl) ?_
  rintro _ _ ⟨b2, rfl, rfl⟩
  refine wl_op [] rfl rfl rfl rfl (op_box (T := 48) (l := 3) rfl) ?_
  rintro _ _ ⟨b3, rfl, rfl⟩
  refine wl_det rfl rfl rfl (op_assign rfl) ?_
  refine wl_nil ?_
  refine st_tn ?_
  refine w_seq ?_
  refine w_region ?_
  refine wl_det rfl rfl rfl (op_fieldAddr (off := 0) rfl tF48_0h) ?_
  refine wl_det rfl rfl rfl (op_load1 rfl tO9h (Ent.lab (l := 2) rfl (says_cel 0))) ?_
  refine wl_det rfl rfl rfl (op_fieldAddr (off := 0) rfl tF48_0h) ?_
  refine wl_det rfl rfl rfl (op_load1 rfl tO9h (Ent.lab (l := 3) rfl (says_cel 0))) ?_
  refine wl_det rfl rfl rfl (op_eqStr rfl rfl) ?_
  refine wl_det rfl rfl rfl (op_move rfl) ?_
  refine wl_gsplit (t := 10) rfl (fun hg10 => ?_) (fun hg10 => ?_)
  · -- 10 is True
    refine wl_wanted_det rfl rfl rfl rfl rfl rfl rfl (op_fieldAddr (off := 1) rfl tF48_1h) ?_
    refine wl_wanted_det rfl rfl rfl rfl rfl rfl rfl (op_load1 rfl tO9h (Ent.lab (l := 2) rfl (says_cel 1))) ?_
    refine wl_wanted_det rfl rfl rfl rfl rfl rfl rfl (op_fieldAddr (off := 1) rfl tF48_1h) ?_
    refine wl_wanted_det rfl rfl rfl rfl rfl rfl rfl (op_load1 rfl tO9h (Ent.lab (l := 3) rfl (says_cel 1))) ?_
    refine wl_wanted_det rfl rfl rfl rfl rfl rfl rfl (op_eqStr rfl rfl) ?_
    refine wl_det rfl rfl rfl (op_pick_t rfl rfl) ?_
    refine wl_det rfl rfl rfl (op_move rfl) ?_
    refine wl_gsplit (t := 17) rfl (fun hg17 => ?_) (fun hg17 => ?_)
    · -- 17 is True
      refine wl_wanted_det rfl rfl rfl rfl rfl rfl rfl (op_fieldAddr (off := 2) rfl tF48_2h) ?_
      refine wl_wanted_det rfl rfl rfl rfl rfl rfl rfl (op_load1 rfl tO3h (Ent.lab (l := 2) rfl (says_cel 2))) ?_
      refine wl_wanted_det rfl rfl rfl rfl rfl rfl rfl (op_fieldAddr (off := 2) rfl tF48_2h) ?_
      refine wl_wanted_det rfl rfl rfl rfl rfl rfl rfl (op_load1 rfl tO3h (Ent.lab (l := 3) rfl (says_cel 2))) ?_
      refine wl_wanted_det rfl rfl rfl rfl rfl rfl rfl (op_eql rfl rfl) ?_
      refine wl_det rfl rfl rfl (op_pick_t rfl rfl) ?_
      refine wl_det rfl rfl rfl (op_move rfl) ?_
      refine wl_gsplit (t := 24) rfl (fun hg24 => ?_) (fun hg24 => ?_)
      · -- 24 is True
        refine wl_wanted_det rfl rfl rfl rfl rfl rfl rfl (op_fieldAddr (off := 3) rfl tF48_3h) ?_
        refine wl_wanted_det rfl rfl rfl rfl rfl rfl rfl (op_loadA rfl tA24h (Ent.lab (l := 2) rfl (says_cel 3)) (Nat.le_of_ble_eq_true rfl)) ?_
        refine wl_wanted_det rfl rfl rfl rfl rfl rfl rfl (op_fieldAddr (off := 3) rfl tF48_3h) ?_
        refine wl_wanted_det rfl rfl rfl rfl rfl rfl rfl (op_loadA rfl tA24h (Ent.lab (l := 3) rfl (says_cel 3)) (Nat.le_of_ble_eq_true rfl)) ?_
        refine wl_wanted_det rfl rfl rfl rfl rfl rfl rfl (op_eqA rfl rfl tG24h (eq24 _ _ _ _)) ?_
        refine wl_det rfl rfl rfl (op_pick_t rfl rfl) ?_
        refine wl_det rfl rfl rfl (op_assign rfl) ?_
        refine wl_nil ?_
        refine st_tn ?_
        refine w_ret ?_
        refine st_ret (vs := [_]) [] Try.results31 ⟨rfl, trivial⟩ rfl ?_
        refine ⟨_, rfl, ?_⟩
        refine ⟨?_, rfl⟩
        unfold sameK
        first | (simp [retv, *]; done) | (simp_all [retv]; done)
      · -- 24 is False
        refine wl_unwanted rfl rfl rfl rfl rfl rfl rfl rfl ?_
        refine wl_unwanted rfl rfl rfl rfl rfl rfl rfl rfl ?_
        refine wl_unwanted rfl rfl rfl rfl rfl rfl rfl rfl ?_
        refine wl_unwanted rfl rfl rfl rfl rfl rfl rfl rfl ?_
        refine wl_unwanted rfl rfl rfl rfl rfl rfl rfl rfl ?_
        refine wl_det rfl rfl rfl (op_pick_f rfl rfl) ?_
        refine wl_det rfl rfl rfl (op_assign rfl) ?_
        refine wl_nil ?_
        refine st_tn ?_
        refine w_ret ?_
        refine st_ret (vs := [_]) [] Try.results31 ⟨rfl, trivial⟩ rfl ?_
        refine ⟨_, rfl, ?_⟩
        refine ⟨?_, rfl⟩
        unfold sameK
        first | (simp [retv, *]; done) | (simp_all [retv]; done)
    · -- 17 is False
      refine wl_unwanted rfl rfl rfl rfl rfl rfl rfl rfl ?_
      refine wl_unwanted rfl rfl rfl rfl rfl rfl rfl rfl ?_
      refine wl_unwanted rfl rfl rfl rfl rfl rfl rfl rfl ?_
      refine wl_unwanted rfl rfl rfl rfl rfl rfl rfl rfl ?_
      refine wl_unwanted rfl rfl rfl rfl rfl rfl rfl rfl ?_
      refine wl_det rfl rfl rfl (op_pick_f rfl rfl) ?_
      refine wl_det rfl rfl rfl (op_move rfl) ?_
      refine wl_unwanted rfl rfl rfl rfl rfl rfl rfl rfl ?_
      refine wl_unwanted rfl rfl rfl rfl rfl rfl rfl rfl ?_
      refine wl_unwanted rfl rfl rfl rfl rfl rfl rfl rfl ?_
      refine wl_unwanted rfl rfl rfl rfl rfl rfl rfl rfl ?_
      refine wl_unwanted rfl rfl rfl rfl rfl rfl rfl rfl ?_
      refine wl_det rfl rfl rfl (op_pick_f rfl rfl) ?_
      refine wl_det rfl rfl rfl (op_assign rfl) ?_
      refine wl_nil ?_
      refine st_tn ?_
      refine w_ret ?_
      refine st_ret (vs := [_]) [] Try.results31 ⟨rfl, trivial⟩ rfl ?_
      refine ⟨_, rfl, ?_⟩
      refine ⟨?_, rfl⟩
      unfold sameK
      first | (simp [retv, *]; done) | (simp_all [retv]; done)
  · -- 10 is False
    refine wl_unwanted rfl rfl rfl rfl rfl rfl rfl rfl ?_
    refine wl_unwanted rfl rfl rfl rfl rfl rfl rfl rfl ?_
    refine wl_unwanted rfl rfl rfl rfl rfl rfl rfl rfl ?_
    refine wl_unwanted rfl rfl rfl rfl rfl rfl rfl rfl ?_
    refine wl_unwanted rfl rfl rfl rfl rfl rfl rfl rfl ?_
    refine wl_det rfl rfl rfl (op_pick_f rfl rfl) ?_
    refine wl_det rfl rfl rfl (op_move rfl) ?_
    refine wl_unwanted rfl rfl rfl rfl rfl rfl rfl rfl ?_
    refine wl_unwanted rfl rfl rfl rfl rfl rfl rfl rfl ?_
    refine wl_unwanted rfl rfl rfl rfl rfl rfl rfl rfl ?_
    refine wl_unwanted rfl rfl rfl rfl rfl rfl rfl rfl ?_
    refine wl_unwanted rfl rfl rfl rfl rfl rfl rfl rfl ?_
    refine wl_det rfl rfl rfl (op_pick_f rfl rfl) ?_
    refine wl_det rfl rfl rfl (op_move rfl) ?_
    refine wl_unwanted rfl rfl rfl rfl rfl rfl rfl rfl ?_
    refine wl_unwanted rfl rfl rfl rfl rfl rfl rfl rfl ?_
    refine wl_unwanted rfl rfl rfl rfl rfl rfl rfl rfl ?_
    refine wl_unwanted rfl rfl rfl rfl rfl rfl rfl rfl ?_
    refine wl_unwanted rfl rfl rfl rfl rfl rfl rfl rfl ?_
    refine wl_det rfl rfl rfl (op_pick_f rfl rfl) ?_
    refine wl_det rfl rfl rfl (op_assign rfl) ?_
    refine wl_nil ?_
    refine st_tn ?_
    refine w_ret ?_
    refine st_ret (vs := [_]) [] Try.results31 ⟨rfl, trivial⟩ rfl ?_
    refine ⟨_, rfl, ?_⟩
    refine ⟨?_, rfl⟩
    unfold sameK
    first | (simp [retv, *]; done) | (simp_all [retv]; done)

set_option maxHeartbeats 400000 in
set_option maxRecDepth 100000 in
theorem alike_any {σ : World} {F : List Res} {v w : Value} (k m : SK) (fr fr' : Int) :
    FnT Try.prog σ F 32 [sr k fr v, sr m fr' w] [] (fun u ρ => u = .bool (decide (sameK k m)) ∧ ρ = []) := by
  refine fn_of 31 Try.func32 rfl Try.ntmps32 rfl ?_
  refine w_seq ?_
  refine w_region ?_
  refine wl_op [] rfl rfl rfl rfl (op_box (T := 48) (l := 2) rfl) ?_
  rintro _ _ ⟨b2, rfl, rfl⟩
  refine wl_op [] rfl rfl rfl rfl (op_box (T := 48) (l := 3) rfl) ?_
  rintro _ _ ⟨b3, rfl, rfl⟩
  refine wl_det rfl rfl rfl (op_assign rfl) ?_
  refine wl_nil ?_
  refine st_tn ?_
  refine w_seq ?_
  refine w_region ?_
  refine wl_det rfl rfl rfl (op_fieldAddr (off := 0) rfl tF48_0h) ?_
  refine wl_det rfl rfl rfl (op_load1 rfl tO9h (Ent.lab (l := 2) rfl (says_cel 0))) ?_
  refine wl_det rfl rfl rfl (op_fieldAddr (off := 0) rfl tF48_0h) ?_
  refine wl_det rfl rfl rfl (op_load1 rfl tO9h (Ent.lab (l := 3) rfl (says_cel 0))) ?_
  refine wl_det rfl rfl rfl (op_eqStr rfl rfl) ?_
  refine wl_det rfl rfl rfl (op_move rfl) ?_
  refine wl_gsplit (t := 10) rfl (fun hg10 => ?_) (fun hg10 => ?_)
  · -- 10 is True
    refine wl_wanted_det rfl rfl rfl rfl rfl rfl rfl (op_fieldAddr (off := 1) rfl tF48_1h) ?_
    refine wl_wanted_det rfl rfl rfl rfl rfl rfl rfl (op_load1 rfl tO9h (Ent.lab (l := 2) rfl (says_cel 1))) ?_
    refine wl_wanted_det rfl rfl rfl rfl rfl rfl rfl (op_fieldAddr (off := 1) rfl tF48_1h) ?_
    refine wl_wanted_det rfl rfl rfl rfl rfl rfl rfl (op_load1 rfl tO9h (Ent.lab (l := 3) rfl (says_cel 1))) ?_
    refine wl_wanted_det rfl rfl rfl rfl rfl rfl rfl (op_eqStr rfl rfl) ?_
    refine wl_det rfl rfl rfl (op_pick_t rfl rfl) ?_
    refine wl_det rfl rfl rfl (op_move rfl) ?_
    refine wl_gsplit (t := 17) rfl (fun hg17 => ?_) (fun hg17 => ?_)
    · -- 17 is True
      refine wl_wanted_det rfl rfl rfl rfl rfl rfl rfl (op_fieldAddr (off := 2) rfl tF48_2h) ?_
      refine wl_wanted_det rfl rfl rfl rfl rfl rfl rfl (op_load1 rfl tO3h (Ent.lab (l := 2) rfl (says_cel 2))) ?_
      refine wl_wanted_det rfl rfl rfl rfl rfl rfl rfl (op_fieldAddr (off := 2) rfl tF48_2h) ?_
      refine wl_wanted_det rfl rfl rfl rfl rfl rfl rfl (op_load1 rfl tO3h (Ent.lab (l := 3) rfl (says_cel 2))) ?_
      refine wl_wanted_det rfl rfl rfl rfl rfl rfl rfl (op_eql rfl rfl) ?_
      refine wl_det rfl rfl rfl (op_pick_t rfl rfl) ?_
      refine wl_det rfl rfl rfl (op_move rfl) ?_
      refine wl_gsplit (t := 24) rfl (fun hg24 => ?_) (fun hg24 => ?_)
      · -- 24 is True
        refine wl_wanted_det rfl rfl rfl rfl rfl rfl rfl (op_fieldAddr (off := 3) rfl tF48_3h) ?_
        refine wl_wanted_det rfl rfl rfl rfl rfl rfl rfl (op_loadA rfl tA24h (Ent.lab (l := 2) rfl (says_cel 3)) (Nat.le_of_ble_eq_true rfl)) ?_
        refine wl_wanted_det rfl rfl rfl rfl rfl rfl rfl (op_fieldAddr (off := 3) rfl tF48_3h) ?_
        refine wl_wanted_det rfl rfl rfl rfl rfl rfl rfl (op_loadA rfl tA24h (Ent.lab (l := 3) rfl (says_cel 3)) (Nat.le_of_ble_eq_true rfl)) ?_
        refine wl_wanted_det rfl rfl rfl rfl rfl rfl rfl (op_eqA rfl rfl tG24h (eq24 _ _ _ _)) ?_
        refine wl_det rfl rfl rfl (op_pick_t rfl rfl) ?_
        refine wl_det rfl rfl rfl (op_assign rfl) ?_
        refine wl_nil ?_
        refine st_tn ?_
        refine w_ret ?_
        refine st_ret (vs := [_]) [] Try.results32 ⟨rfl, trivial⟩ rfl ?_
        refine ⟨_, rfl, ?_⟩
        refine ⟨?_, rfl⟩
        unfold sameK
        first | (simp [retv, *]; done) | (simp_all [retv]; done)
      · -- 24 is False
        refine wl_unwanted rfl rfl rfl rfl rfl rfl rfl rfl ?_
        refine wl_unwanted rfl rfl rfl rfl rfl rfl rfl rfl ?_
        refine wl_unwanted rfl rfl rfl rfl rfl rfl rfl rfl ?_
        refine wl_unwanted rfl rfl rfl rfl rfl rfl rfl rfl ?_
        refine wl_unwanted rfl rfl rfl rfl rfl rfl rfl rfl ?_
        refine wl_det rfl rfl rfl (op_pick_f rfl rfl) ?_
        refine wl_det rfl rfl rfl (op_assign rfl) ?_
        refine wl_nil ?_
        refine st_tn ?_
        refine w_ret ?_
        refine st_ret (vs := [_]) [] Try.results32 ⟨rfl, trivial⟩ rfl ?_
        refine ⟨_, rfl, ?_⟩
        refine ⟨?_, rfl⟩
        unfold sameK
        first | (simp [retv, *]; done) | (simp_all [retv]; done)
    · -- 17 is False
      refine wl_unwanted rfl rfl rfl rfl rfl rfl rfl rfl ?_
      refine wl_unwanted rfl rfl rfl rfl rfl rfl rfl rfl ?_
      refine wl_unwanted rfl rfl rfl rfl rfl rfl rfl rfl ?_
      refine wl_unwanted rfl rfl rfl rfl rfl rfl rfl rfl ?_
      refine wl_unwanted rfl rfl rfl rfl rfl rfl rfl rfl ?_
      refine wl_det rfl rfl rfl (op_pick_f rfl rfl) ?_
      refine wl_det rfl rfl rfl (op_move rfl) ?_
      refine wl_unwanted rfl rfl rfl rfl rfl rfl rfl rfl ?_
      refine wl_unwanted rfl rfl rfl rfl rfl rfl rfl rfl ?_
      refine wl_unwanted rfl rfl rfl rfl rfl rfl rfl rfl ?_
      refine wl_unwanted rfl rfl rfl rfl rfl rfl rfl rfl ?_
      refine wl_unwanted rfl rfl rfl rfl rfl rfl rfl rfl ?_
      refine wl_det rfl rfl rfl (op_pick_f rfl rfl) ?_
      refine wl_det rfl rfl rfl (op_assign rfl) ?_
      refine wl_nil ?_
      refine st_tn ?_
      refine w_ret ?_
      refine st_ret (vs := [_]) [] Try.results32 ⟨rfl, trivial⟩ rfl ?_
      refine ⟨_, rfl, ?_⟩
      refine ⟨?_, rfl⟩
      unfold sameK
      first | (simp [retv, *]; done) | (simp_all [retv]; done)
  · -- 10 is False
    refine wl_unwanted rfl rfl rfl rfl rfl rfl rfl rfl ?_
    refine wl_unwanted rfl rfl rfl rfl rfl rfl rfl rfl ?_
    refine wl_unwanted rfl rfl rfl rfl rfl rfl rfl rfl ?_
    refine wl_unwanted rfl rfl rfl rfl rfl rfl rfl rfl ?_
    refine wl_unwanted rfl rfl rfl rfl rfl rfl rfl rfl ?_
    refine wl_det rfl rfl rfl (op_pick_f rfl rfl) ?_
    refine wl_det rfl rfl rfl (op_move rfl) ?_
    refine wl_unwanted rfl rfl rfl rfl rfl rfl rfl rfl ?_
    refine wl_unwanted rfl rfl rfl rfl rfl rfl rfl rfl ?_
    refine wl_unwanted rfl rfl rfl rfl rfl rfl rfl rfl ?_
    refine wl_unwanted rfl rfl rfl rfl rfl rfl rfl rfl ?_
    refine wl_unwanted rfl rfl rfl rfl rfl rfl rfl rfl ?_
    refine wl_det rfl rfl rfl (op_pick_f rfl rfl) ?_
    refine wl_det rfl rfl rfl (op_move rfl) ?_
    refine wl_unwanted rfl rfl rfl rfl rfl rfl rfl rfl ?_
    refine wl_unwanted rfl rfl rfl rfl rfl rfl rfl rfl ?_
    refine wl_unwanted rfl rfl rfl rfl rfl rfl rfl rfl ?_
    refine wl_unwanted rfl rfl rfl rfl rfl rfl rfl rfl ?_
    refine wl_unwanted rfl rfl rfl rfl rfl rfl rfl rfl ?_
    refine wl_det rfl rfl rfl (op_pick_f rfl rfl) ?_
    refine wl_det rfl rfl rfl (op_assign rfl) ?_
    refine wl_nil ?_
    refine st_tn ?_
    refine w_ret ?_
    refine st_ret (vs := [_]) [] Try.results32 ⟨rfl, trivial⟩ rfl ?_
    refine ⟨_, rfl, ?_⟩
    refine ⟨?_, rfl⟩
    unfold sameK
    first | (simp [retv, *]; done) | (simp_all [retv]; done)

-- CALL sleuth/sleuthlaw43.alike alike_any _ _ _ _
set_option maxHeartbeats 400000 in
set_option maxRecDepth 100000 in
theorem equal_any {σ : World} {F : List Res} {a b : Option Addr} {c d : Nat} {l m : List Int} (k k' : SK) (fr fr' : Int) (h : Sl σ F encZ 1 (.slice a l.length c) l) (g : Sl σ F encZ 1 (.slice b m.length d) m) :
    FnT Try.prog σ F 33 [sr k fr (.slice a l.length c), sr k' fr' (.slice b m.length d)] [] (fun u ρ => u = .bool (decide (sameK k k' ∧ fr = fr' ∧ l = m)) ∧ ρ = []) := by
  refine fn_of 22 Try.func33 rfl Try.ntmps33 rfl ?_
  refine w_seq ?_
  refine w_region ?_
  refine wl_op [] rfl rfl rfl rfl (op_box (T := 48) (l := 2) rfl) ?_
  rintro _ _ ⟨b2, rfl, rfl⟩
  refine wl_op [] rfl rfl rfl rfl (op_box (T := 48) (l := 3) rfl) ?_
  rintro _ _ ⟨b3, rfl, rfl⟩
  refine wl_det rfl rfl rfl (op_assign rfl) ?_
  refine wl_nil ?_
  refine st_tn ?_
  refine w_seq ?_
  refine w_region ?_
  refine wl_det rfl rfl rfl (op_loadA rfl tA48h (Ent.lab (l := 2) rfl (says_cel 0)) (Nat.le_of_ble_eq_true rfl)) ?_
  refine wl_det rfl rfl rfl (op_loadA rfl tA48h (Ent.lab (l := 3) rfl (says_cel 0)) (Nat.le_of_ble_eq_true rfl)) ?_
  refine wl_det rfl rfl rfl (op_fn Try.func31 rfl rfl rfl (same_any _ _ _ _)) ?_
  refine wl_det rfl rfl rfl (op_move rfl) ?_
  refine wl_gsplit (t := 8) rfl (fun hg8 => ?_) (fun hg8 => ?_)
  · -- 8 is True
    refine wl_wanted_det rfl rfl rfl rfl rfl rfl rfl (op_fieldAddr (off := 5) rfl tF48_4h) ?_
    refine wl_wanted_det rfl rfl rfl rfl rfl rfl rfl (op_load1 rfl tO3h (Ent.lab (l := 2) rfl (says_cel 5))) ?_
    refine wl_wanted_det rfl rfl rfl rfl rfl rfl rfl (op_fieldAddr (off := 5) rfl tF48_4h) ?_
    refine wl_wanted_det rfl rfl rfl rfl rfl rfl rfl (op_load1 rfl tO3h (Ent.lab (l := 3) rfl (says_cel 5))) ?_
    refine wl_wanted_det rfl rfl rfl rfl rfl rfl rfl (op_eql rfl rfl) ?_
    refine wl_det rfl rfl rfl (op_pick_t rfl rfl) ?_
    refine wl_det rfl rfl rfl (op_move rfl) ?_
    refine wl_gsplit (t := 15) rfl (fun hg15 => ?_) (fun hg15 => ?_)
    · -- 15 is True
      refine wl_wanted_det rfl rfl rfl rfl rfl rfl rfl (op_fieldAddr (off := 6) rfl tF48_5h) ?_
      refine wl_wanted_det rfl rfl rfl rfl rfl rfl rfl (op_load1 rfl tO25h (Ent.lab (l := 2) rfl (says_cel 6))) ?_
      refine wl_wanted_det rfl rfl rfl rfl rfl rfl rfl (op_fieldAddr (off := 6) rfl tF48_5h) ?_
      refine wl_wanted_det rfl rfl rfl rfl rfl rfl rfl (op_load1 rfl tO25h (Ent.lab (l := 3) rfl (says_cel 6))) ?_
      refine wl_wanted_det rfl rfl rfl rfl rfl rfl rfl (op_fn Try.func61 rfl rfl rfl (equalI (Sl.app h _) (Sl.app g _))) ?_
      refine wl_det rfl rfl rfl (op_pick_t rfl rfl) ?_
      refine wl_det rfl rfl rfl (op_assign rfl) ?_
      refine wl_nil ?_
      refine st_tn ?_
      refine w_ret ?_
      refine st_ret (vs := [_]) [] Try.results33 ⟨rfl, trivial⟩ rfl ?_
      refine ⟨_, rfl, ?_⟩
      refine ⟨?_, rfl⟩
      first | (simp [retv, *]; done) | (simp_all [retv]; done)
    · -- 15 is False
      refine wl_unwanted rfl rfl rfl rfl rfl rfl rfl rfl ?_
      refine wl_unwanted rfl rfl rfl rfl rfl rfl rfl rfl ?_
      refine wl_unwanted rfl rfl rfl rfl rfl rfl rfl rfl ?_
      refine wl_unwanted rfl rfl rfl rfl rfl rfl rfl rfl ?_
      refine wl_unwanted rfl rfl rfl rfl rfl rfl rfl rfl ?_
      refine wl_det rfl rfl rfl (op_pick_f rfl rfl) ?_
      refine wl_det rfl rfl rfl (op_assign rfl) ?_
      refine wl_nil ?_
      refine st_tn ?_
      refine w_ret ?_
      refine st_ret (vs := [_]) [] Try.results33 ⟨rfl, trivial⟩ rfl ?_
      refine ⟨_, rfl, ?_⟩
      refine ⟨?_, rfl⟩
      first | (simp [retv, *]; done) | (simp_all [retv]; done)
  · -- 8 is False
    refine wl_unwanted rfl rfl rfl rfl rfl rfl rfl rfl ?_
    refine wl_unwanted rfl rfl rfl rfl rfl rfl rfl rfl ?_
    refine wl_unwanted rfl rfl rfl rfl rfl rfl rfl rfl ?_
    refine wl_unwanted rfl rfl rfl rfl rfl rfl rfl rfl ?_
    refine wl_unwanted rfl rfl rfl rfl rfl rfl rfl rfl ?_
    refine wl_det rfl rfl rfl (op_pick_f rfl rfl) ?_
    refine wl_det rfl rfl rfl (op_move rfl) ?_
    refine wl_unwanted rfl rfl rfl rfl rfl rfl rfl rfl ?_
    refine wl_unwanted rfl rfl rfl rfl rfl rfl rfl rfl ?_
    refine wl_unwanted rfl rfl rfl rfl rfl rfl rfl rfl ?_
    refine wl_unwanted rfl rfl rfl rfl rfl rfl rfl rfl ?_
    refine wl_unwanted rfl rfl rfl rfl rfl rfl rfl rfl ?_
    refine wl_det rfl rfl rfl (op_pick_f rfl rfl) ?_
    refine wl_det rfl rfl rfl (op_assign rfl) ?_
    refine wl_nil ?_
    refine st_tn ?_
    refine w_ret ?_
    refine st_ret (vs := [_]) [] Try.results33 ⟨rfl, trivial⟩ rfl ?_
    refine ⟨_, rfl, ?_⟩
    refine ⟨?_, rfl⟩
    first | (simp [retv, *]; done) | (simp_all [retv]; done)

set_option maxHeartbeats 400000 in
set_option maxRecDepth 100000 in
theorem lsame_any {σ : World} {F : List Res} {a b : Option Addr} {c d : Nat} {l m : List Int} (k k' : SK) (fr fr' : Int) (h : Sl σ F encZ 1 (.slice a l.length c) l) (g : Sl σ F encZ 1 (.slice b m.length d) m) :
    FnT Try.prog σ F 27 [sr k fr (.slice a l.length c), sr k' fr' (.slice b m.length d)] [] (fun u ρ => u = .bool (decide (sameK k k' ∧ fr = fr' ∧ l = m)) ∧ ρ = []) := by
  refine fn_of 22 Try.func27 rfl Try.ntmps27 rfl ?_
  refine w_seq ?_
  refine w_region ?_
  refine wl_op [] rfl rfl rfl rfl (op_box (T := 48) (l := 2) rfl) ?_
  rintro _ _ ⟨b2, rfl, rfl⟩
  refine wl_op [] rfl rfl rfl rfl (op_box (T := 48) (l := 3) rfl) ?_
  rintro _ _ ⟨b3, rfl, rfl⟩
  refine wl_det rfl rfl rfl (op_assign rfl) ?_
  refine wl_nil ?_
  refine st_tn ?_
  refine w_seq ?_
  refine w_region ?_
  refine wl_det rfl rfl rfl (op_loadA rfl tA48h (Ent.lab (l := 2) rfl (says_cel 0)) (Nat.le_of_ble_eq_true rfl)) ?_
  refine wl_det rfl rfl rfl (op_loadA rfl tA48h (Ent.lab (l := 3) rfl (says_cel 0)) (Nat.le_of_ble_eq_true rfl)) ?_
  refine wl_det rfl rfl rfl (op_fn Try.func32 rfl rfl rfl (alike_any _ _ _ _)) ?_
  refine wl_det rfl rfl rfl (op_move rfl) ?_
  refine wl_gsplit (t := 8) rfl (fun hg8 => ?_) (fun hg8 => ?_)
  · -- 8 is True
    refine wl_wanted_det rfl rfl rfl rfl rfl rfl rfl (op_fieldAddr (off := 5) rfl tF48_4h) ?_
    refine wl_wanted_det rfl rfl rfl rfl rfl rfl rfl (op_load1 rfl tO3h (Ent.lab (l := 2) rfl (says_cel 5))) ?_
    refine wl_wanted_det rfl rfl rfl rfl rfl rfl rfl (op_fieldAddr (off := 5) rfl tF48_4h) ?_
    refine wl_wanted_det rfl rfl rfl rfl rfl rfl rfl (op_load1 rfl tO3h (Ent.lab (l := 3) rfl (says_cel 5))) ?_
    refine wl_wanted_det rfl rfl rfl rfl rfl rfl rfl (op_eql rfl rfl) ?_
    refine wl_det rfl rfl rfl (op_pick_t rfl rfl) ?_
    refine wl_det rfl rfl rfl (op_move rfl) ?_
    refine wl_gsplit (t := 15) rfl (fun hg15 => ?_) (fun hg15 => ?_)
    · -- 15 is True
      refine wl_wanted_det rfl rfl rfl rfl rfl rfl rfl (op_fieldAddr (off := 6) rfl tF48_5h) ?_
      refine wl_wanted_det rfl rfl rfl rfl rfl rfl rfl (op_load1 rfl tO25h (Ent.lab (l := 2) rfl (says_cel 6))) ?_
      refine wl_wanted_det rfl rfl rfl rfl rfl rfl rfl (op_fieldAddr (off := 6) rfl tF48_5h) ?_
      refine wl_wanted_det rfl rfl rfl rfl rfl rfl rfl (op_load1 rfl tO25h (Ent.lab (l := 3) rfl (says_cel 6))) ?_
      refine wl_wanted_det rfl rfl rfl rfl rfl rfl rfl (op_fn Try.func22 rfl rfl rfl (ints_any (Sl.app h _) (Sl.app g _))) ?_
      refine wl_det rfl rfl rfl (op_pick_t rfl rfl) ?_
      refine wl_det rfl rfl rfl (op_assign rfl) ?_
      refine wl_nil ?_
      refine st_tn ?_
      refine w_ret ?_
      refine st_ret (vs := [_]) [] Try.results27 ⟨rfl, trivial⟩ rfl ?_
      refine ⟨_, rfl, ?_⟩
      refine ⟨?_, rfl⟩
      first | (simp [retv, *]; done) | (simp_all [retv]; done)
    · -- 15 is False
      refine wl_unwanted rfl rfl rfl rfl rfl rfl rfl rfl ?_
      refine wl_unwanted rfl rfl rfl rfl rfl rfl rfl rfl ?_
      refine wl_unwanted rfl rfl rfl rfl rfl rfl rfl rfl ?_
      refine wl_unwanted rfl rfl rfl rfl rfl rfl rfl rfl ?_
      refine wl_unwanted rfl rfl rfl rfl rfl rfl rfl rfl ?_
      refine wl_det rfl rfl rfl (op_pick_f rfl rfl) ?_
      refine wl_det rfl rfl rfl (op_assign rfl) ?_
      refine wl_nil ?_
      refine st_tn ?_
      refine w_ret ?_
      refine st_ret (vs := [_]) [] Try.results27 ⟨rfl, trivial⟩ rfl ?_
      refine ⟨_, rfl, ?_⟩
      refine ⟨?_, rfl⟩
      first | (simp [retv, *]; done) | (simp_all [retv]; done)
  · -- 8 is False
    refine wl_unwanted rfl rfl rfl rfl rfl rfl rfl rfl ?_
    refine wl_unwanted rfl rfl rfl rfl rfl rfl rfl rfl ?_
    refine wl_unwanted rfl rfl rfl rfl rfl rfl rfl rfl ?_
    refine wl_unwanted rfl rfl rfl rfl rfl rfl rfl rfl ?_
    refine wl_unwanted rfl rfl rfl rfl rfl rfl rfl rfl ?_
    refine wl_det rfl rfl rfl (op_pick_f rfl rfl) ?_
    refine wl_det rfl rfl rfl (op_move rfl) ?_
    refine wl_unwanted rfl rfl rfl rfl rfl rfl rfl rfl ?_
    refine wl_unwanted rfl rfl rfl rfl rfl rfl rfl rfl ?_
    refine wl_unwanted rfl rfl rfl rfl rfl rfl rfl rfl ?_
    refine wl_unwanted rfl rfl rfl rfl rfl rfl rfl rfl ?_
    refine wl_unwanted rfl rfl rfl rfl rfl rfl rfl rfl ?_
    refine wl_det rfl rfl rfl (op_pick_f rfl rfl) ?_
    refine wl_det rfl rfl rfl (op_assign rfl) ?_
    refine wl_nil ?_
    refine st_tn ?_
    refine w_ret ?_
    refine st_ret (vs := [_]) [] Try.results27 ⟨rfl, trivial⟩ rfl ?_
    refine ⟨_, rfl, ?_⟩
    refine ⟨?_, rfl⟩
    first | (simp [retv, *]; done) | (simp_all [retv]; done)

/-- What Shift returns. -/
def shiftR (k : SK) (fr : Int) (l : List Int) (by_ : Int) : R :=
  if by_ < -1048576 ∨ by_ > 1048576 ∨ fr + by_ < 0 ∨ fr + by_ > 1048576 ∨ fr + by_ + l.length > 1048577 then zeroR 32 else ⟨k, fr + by_, l, 0⟩
set_option maxHeartbeats 1000000 in
set_option maxRecDepth 100000 in
theorem shift_any {σ : World} {F : List Res} {a : Option Addr} {c : Nat} {l : List Int} (lab : Nat) (k : SK) (fr y : Int) (h : Sl σ F encZ 1 (.slice a l.length c) l) (hl : l.length ≤ 1048576) (hf : 0 ≤ fr ∧ fr ≤ 1048576) :
    FnT Try.prog σ F 23 [sr k fr (.slice a l.length c), .int .i64 y] [] (SerV (shiftR k fr l y) lab) := by
  refine fn_of 47 Try.func23 rfl Try.ntmps23 rfl ?_
  have hle := h.i64
  refine w_seq ?_
  refine w_region ?_
  refine wl_op [] rfl rfl rfl rfl (op_box (T := 48) (l := 2) rfl) ?_
  rintro _ _ ⟨b2, rfl, rfl⟩
  refine wl_op [] rfl rfl rfl rfl (op_alloc (l := 4) tN48h) ?_
  rintro _ _ ⟨b4, rfl, rfl⟩
  refine wl_det rfl rfl rfl (op_assign rfl) ?_
  refine wl_nil ?_
  refine st_tn ?_
  refine w_seq ?_
  refine w_seq ?_
  refine w_cutL [(36, .bool (decide (y < -1048576 ∨ y > 1048576 ∨ fr + y < 0 ∨ fr + y > 1048576 ∨ fr + y + l.length > 1048577)))] [1, 2, 4] [2, 4] rfl (fun K' hK => ?_) ?_
  · -- cut r1
    refine w_region ?_
    refine wl_det rfl rfl rfl (op_move rfl) ?_
    refine wl_det rfl rfl rfl (op_lss rfl rfl) ?_
    refine wl_det rfl rfl rfl (op_move rfl) ?_
    refine wl_gsplit (t := 8) rfl (fun hg8 => ?_) (fun hg8 => ?_)
    · -- 8 is True
      refine wl_unwanted rfl rfl rfl rfl rfl rfl rfl rfl ?_
      refine wl_unwanted rfl rfl rfl rfl rfl rfl rfl rfl ?_
      refine wl_det rfl rfl rfl (op_pick_t rfl rfl) ?_
      refine wl_det rfl rfl rfl (op_move rfl) ?_
      refine wl_unwanted rfl rfl rfl rfl rfl rfl rfl rfl ?_
      refine wl_unwanted rfl rfl rfl rfl rfl rfl rfl rfl ?_
      refine wl_unwanted rfl rfl rfl rfl rfl rfl rfl rfl ?_
      refine wl_unwanted rfl rfl rfl rfl rfl rfl rfl rfl ?_
      refine wl_unwanted rfl rfl rfl rfl rfl rfl rfl rfl ?_
      refine wl_det rfl rfl rfl (op_pick_t rfl rfl) ?_
      refine wl_det rfl rfl rfl (op_move rfl) ?_
      refine wl_unwanted rfl rfl rfl rfl rfl rfl rfl rfl ?_
      refine wl_unwanted rfl rfl rfl rfl rfl rfl rfl rfl ?_
      refine wl_unwanted rfl rfl rfl rfl rfl rfl rfl rfl ?_
      refine wl_unwanted rfl rfl rfl rfl rfl rfl rfl rfl ?_
      refine wl_unwanted rfl rfl rfl rfl rfl rfl rfl rfl ?_
      refine wl_det rfl rfl rfl (op_pick_t rfl rfl) ?_
      refine wl_det rfl rfl rfl (op_move rfl) ?_
      refine wl_unwanted rfl rfl rfl rfl rfl rfl rfl rfl ?_
      refine wl_unwanted rfl rfl rfl rfl rfl rfl rfl rfl ?_
      refine wl_unwanted rfl rfl rfl rfl rfl rfl rfl rfl ?_
      refine wl_unwanted rfl rfl rfl rfl rfl rfl rfl rfl ?_
      refine wl_unwanted rfl rfl rfl rfl rfl rfl rfl rfl ?_
      refine wl_unwanted rfl rfl rfl rfl rfl rfl rfl rfl ?_
      refine wl_unwanted rfl rfl rfl rfl rfl rfl rfl rfl ?_
      refine wl_unwanted rfl rfl rfl rfl rfl rfl rfl rfl ?_
      refine wl_unwanted rfl rfl rfl rfl rfl rfl rfl rfl ?_
      refine wl_det rfl rfl rfl (op_pick_t rfl rfl) ?_
      refine wl_nil ?_
      refine st_tn ?_
      exact cut_done1 [2, 4] hK rfl (by first | (rw [decide_eq_decide]; omega) | (symm; rw [decide_eq_false_iff_not]; omega) | (symm; rw [decide_eq_true_iff]; omega) | (simp; done) | (simp; omega) | (simp [*]; done) | (simp [*]; omega)) (by rfl) rfl rfl
    · -- 8 is False
      refine wl_wanted_det rfl rfl rfl rfl rfl rfl rfl (op_move rfl) ?_
      refine wl_wanted_det rfl rfl rfl rfl rfl rfl rfl (op_gtr rfl rfl) ?_
      refine wl_det rfl rfl rfl (op_pick_f rfl rfl) ?_
      refine wl_det rfl rfl rfl (op_move rfl) ?_
      refine wl_gsplit (t := 12) rfl (fun hg12 => ?_) (fun hg12 => ?_)
      · -- 12 is True
        refine wl_unwanted rfl rfl rfl rfl rfl rfl rfl rfl ?_
        refine wl_unwanted rfl rfl rfl rfl rfl rfl rfl rfl ?_
        refine wl_unwanted rfl rfl rfl rfl rfl rfl rfl rfl ?_
        refine wl_unwanted rfl rfl rfl rfl rfl rfl rfl rfl ?_
        refine wl_unwanted rfl rfl rfl rfl rfl rfl rfl rfl ?_
        refine wl_det rfl rfl rfl (op_pick_t rfl rfl) ?_
        refine wl_det rfl rfl rfl (op_move rfl) ?_
        refine wl_unwanted rfl rfl rfl rfl rfl rfl rfl rfl ?_
        refine wl_unwanted rfl rfl rfl rfl rfl rfl rfl rfl ?_
        refine wl_unwanted rfl rfl rfl rfl rfl rfl rfl rfl ?_
        refine wl_unwanted rfl rfl rfl rfl rfl rfl rfl rfl ?_
        refine wl_unwanted rfl rfl rfl rfl rfl rfl rfl rfl ?_
        refine wl_det rfl rfl rfl (op_pick_t rfl rfl) ?_
        refine wl_det rfl rfl rfl (op_move rfl) ?_
        refine wl_unwanted rfl rfl rfl rfl rfl rfl rfl rfl ?_
        refine wl_unwanted rfl rfl rfl rfl rfl rfl rfl rfl ?_
        refine wl_unwanted rfl rfl rfl rfl rfl rfl rfl rfl ?_
        refine wl_unwanted rfl rfl rfl rfl rfl rfl rfl rfl ?_
        refine wl_unwanted rfl rfl rfl rfl rfl rfl rfl rfl ?_
        refine wl_unwanted rfl rfl rfl rfl rfl rfl rfl rfl ?_
        refine wl_unwanted rfl rfl rfl rfl rfl rfl rfl rfl ?_
        refine wl_unwanted rfl rfl rfl rfl rfl rfl rfl rfl ?_
        refine wl_unwanted rfl rfl rfl rfl rfl rfl rfl rfl ?_
        refine wl_det rfl rfl rfl (op_pick_t rfl rfl) ?_
        refine wl_nil ?_
        refine st_tn ?_
        exact cut_done1 [2, 4] hK rfl (by first | (rw [decide_eq_decide]; omega) | (symm; rw [decide_eq_false_iff_not]; omega) | (symm; rw [decide_eq_true_iff]; omega) | (simp; done) | (simp; omega) | (simp [*]; done) | (simp [*]; omega)) (by rfl) rfl rfl
      · -- 12 is False
        refine wl_wanted_det rfl rfl rfl rfl rfl rfl rfl (op_fieldAddr (off := 5) rfl tF48_4h) ?_
        refine wl_wanted_det rfl rfl rfl rfl rfl rfl rfl (op_load1 rfl tO3h (Ent.lab (l := 2) rfl (says_cel 5))) ?_
        refine wl_wanted_det rfl rfl rfl rfl rfl rfl rfl (op_move rfl) ?_
        refine wl_wanted_det rfl rfl rfl rfl rfl rfl rfl (op_add' rfl rfl (by omega)) ?_
        refine wl_wanted_det rfl rfl rfl rfl rfl rfl rfl (op_lss rfl rfl) ?_
        refine wl_det rfl rfl rfl (op_pick_f rfl rfl) ?_
        refine wl_det rfl rfl rfl (op_move rfl) ?_
        refine wl_gsplit (t := 19) rfl (fun hg19 => ?_) (fun hg19 => ?_)
        · -- 19 is True
          refine wl_unwanted rfl rfl rfl rfl rfl rfl rfl rfl ?_
          refine wl_unwanted rfl rfl rfl rfl rfl rfl rfl rfl ?_
          refine wl_unwanted rfl rfl rfl rfl rfl rfl rfl rfl ?_
          refine wl_unwanted rfl rfl rfl rfl rfl rfl rfl rfl ?_
          refine wl_unwanted rfl rfl rfl rfl rfl rfl rfl rfl ?_
          refine wl_det rfl rfl rfl (op_pick_t rfl rfl) ?_
          refine wl_det rfl rfl rfl (op_move rfl) ?_
          refine wl_unwanted rfl rfl rfl rfl rfl rfl rfl rfl ?_
          refine wl_unwanted rfl rfl rfl rfl rfl rfl rfl rfl ?_
          refine wl_unwanted rfl rfl rfl rfl rfl rfl rfl rfl ?_
          refine wl_unwanted rfl rfl rfl rfl rfl rfl rfl rfl ?_
          refine wl_unwanted rfl rfl rfl rfl rfl rfl rfl rfl ?_
          refine wl_unwanted rfl rfl rfl rfl rfl rfl rfl rfl ?_
          refine wl_unwanted rfl rfl rfl rfl rfl rfl rfl rfl ?_
          refine wl_unwanted rfl rfl rfl rfl rfl rfl rfl rfl ?_
          refine wl_unwanted rfl rfl rfl rfl rfl rfl rfl rfl ?_
          refine wl_det rfl rfl rfl (op_pick_t rfl rfl) ?_
          refine wl_nil ?_
          refine st_tn ?_
          exact cut_done1 [2, 4] hK rfl (by first | (rw [decide_eq_decide]; omega) | (symm; rw [decide_eq_false_iff_not]; omega) | (symm; rw [decide_eq_true_iff]; omega) | (simp; done) | (simp; omega) | (simp [*]; done) | (simp [*]; omega)) (by rfl) rfl rfl
        · -- 19 is False
          refine wl_wanted_det rfl rfl rfl rfl rfl rfl rfl (op_fieldAddr (off := 5) rfl tF48_4h) ?_
          refine wl_wanted_det rfl rfl rfl rfl rfl rfl rfl (op_load1 rfl tO3h (Ent.lab (l := 2) rfl (says_cel 5))) ?_
          refine wl_wanted_det rfl rfl rfl rfl rfl rfl rfl (op_move rfl) ?_
          refine wl_wanted_det rfl rfl rfl rfl rfl rfl rfl (op_add' rfl rfl (by omega)) ?_
          refine wl_wanted_det rfl rfl rfl rfl rfl rfl rfl (op_gtr rfl rfl) ?_
          refine wl_det rfl rfl rfl (op_pick_f rfl rfl) ?_
          refine wl_det rfl rfl rfl (op_move rfl) ?_
          refine wl_gsplit (t := 26) rfl (fun hg26 => ?_) (fun hg26 => ?_)
          · -- 26 is True
            refine wl_unwanted rfl rfl rfl rfl rfl rfl rfl rfl ?_
            refine wl_unwanted rfl rfl rfl rfl rfl rfl rfl rfl ?_
            refine wl_unwanted rfl rfl rfl rfl rfl rfl rfl rfl ?_
            refine wl_unwanted rfl rfl rfl rfl rfl rfl rfl rfl ?_
            refine wl_unwanted rfl rfl rfl rfl rfl rfl rfl rfl ?_
            refine wl_unwanted rfl rfl rfl rfl rfl rfl rfl rfl ?_
            refine wl_unwanted rfl rfl rfl rfl rfl rfl rfl rfl ?_
            refine wl_unwanted rfl rfl rfl rfl rfl rfl rfl rfl ?_
            refine wl_unwanted rfl rfl rfl rfl rfl rfl rfl rfl ?_
            refine wl_det rfl rfl rfl (op_pick_t rfl rfl) ?_
            refine wl_nil ?_
            refine st_tn ?_
            exact cut_done1 [2, 4] hK rfl (by first | (rw [decide_eq_decide]; omega) | (symm; rw [decide_eq_false_iff_not]; omega) | (symm; rw [decide_eq_true_iff]; omega) | (simp; done) | (simp; omega) | (simp [*]; done) | (simp [*]; omega)) (by rfl) rfl rfl
          · -- 26 is False
            refine wl_wanted_det rfl rfl rfl rfl rfl rfl rfl (op_fieldAddr (off := 5) rfl tF48_4h) ?_
            refine wl_wanted_det rfl rfl rfl rfl rfl rfl rfl (op_load1 rfl tO3h (Ent.lab (l := 2) rfl (says_cel 5))) ?_
            refine wl_wanted_det rfl rfl rfl rfl rfl rfl rfl (op_move rfl) ?_
            refine wl_wanted_det rfl rfl rfl rfl rfl rfl rfl (op_add' rfl rfl (by omega)) ?_
            refine wl_wanted_det rfl rfl rfl rfl rfl rfl rfl (op_fieldAddr (off := 6) rfl tF48_5h) ?_
            refine wl_wanted_det rfl rfl rfl rfl rfl rfl rfl (op_load1 rfl tO25h (Ent.lab (l := 2) rfl (says_cel 6))) ?_
            refine wl_wanted_det rfl rfl rfl rfl rfl rfl rfl (op_lenT rfl tS25h (Sl.ent (by first | exact Sl.app (by assumption) _ | exact Sl.app (Sl.app (by assumption) _) _))) ?_
            refine wl_wanted_det rfl rfl rfl rfl rfl rfl rfl (op_add' rfl rfl (by omega)) ?_
            refine wl_wanted_det rfl rfl rfl rfl rfl rfl rfl (op_gtr rfl rfl) ?_
            refine wl_det rfl rfl rfl (op_pick_f rfl rfl) ?_
            refine wl_nil ?_
            refine st_tn ?_
            exact cut_done1 [2, 4] hK rfl (by first | (rw [decide_eq_decide]; omega) | (symm; rw [decide_eq_false_iff_not]; omega) | (symm; rw [decide_eq_true_iff]; omega) | (simp; done) | (simp; omega) | (simp [*]; done) | (simp [*]; omega)) (by rfl) rfl rfl
  · -- behind r1
    show W _ _ _ _ _ [(36, _), (1, _), (2, _), (4, _)] [(2, _), (4, _)] _
    refine w_cond_d rfl (fun hc36 => ?_) (fun hc36 => ?_)
    · -- c36.t
      refine w_seq ?_
      refine w_emp 77 (slO_nil 3 1) ?_
      refine w_region ?_
      refine wl_det rfl rfl rfl (op_build tB48h rfl rfl) ?_
      refine wl_op0 [4] rfl rfl rfl (op_store rfl rfl tZ48h (by rfl) (by rfl) (by exact Nat.le_of_ble_eq_true rfl)) ?_
      rintro _ _ ⟨rfl, rfl⟩
      refine wl_det rfl rfl rfl (op_assign rfl) ?_
      refine wl_nil ?_
      refine st_tn ?_
      refine w_ret ?_
      refine st_tr ?_
      refine st_ret (vs := [_, _]) [77] Try.results23 ⟨⟨_, rfl, Ent.mono (Ent.lab (l := 4) rfl (says_cel 0)) (fun _ h => run_load_agg tA48h h (Nat.le_of_ble_eq_true rfl))⟩, ⟨rfl, trivial⟩⟩ rfl ?_
      refine ⟨[(lab, _)], rfl, ?_⟩
      unfold shiftR; rw [if_pos hc36]; exact ⟨none, 0, rfl, rfl⟩
    · -- c36.f
      refine w_skip ?_
      refine st_tn ?_
      refine w_seq ?_
      refine w_drawW (fun β => [⟨38, [], [], [], noW (_), false, [], []⟩, ⟨39, [], [], [], noW (_), false, [], []⟩, ⟨40, [1], [], [], noW (_), false, [], []⟩, ⟨41, [], [], [], noW (_), false, [], []⟩, ⟨42, [2, 3], [], [], noW (_), false, [], []⟩, ⟨43, [], [], [], noW (_), false, [], []⟩, ⟨44, [5], [], [], noW (_), false, [], []⟩, ⟨45, [6], [], [], fun w => DetW _ _, false, [], []⟩]) [] [2, 1] [⟨38, [], [], false, [], []⟩, ⟨39, [], [], false, [], []⟩, ⟨40, [1], [], false, [], []⟩, ⟨41, [], [], false, [], []⟩, ⟨42, [2, 3], [], false, [], []⟩, ⟨43, [], [], false, [], []⟩, ⟨44, [5], [], false, [], []⟩, ⟨45, [6], [], false, [], []⟩] [[], [], [], [], [], [], [], []] [[], [], [], [], [], [], [], []] tMixh (fun _ => by rfl) (fun _ => by rfl) (by kernel_rfl) (by kernel_rfl) (by rfl) (by rfl)
          (fun β => ⟨.p rfl (by intro X; exact op_loadA rfl tA48h (Ent.lab (l := 2) rfl (says_cel 0)) (Nat.le_of_ble_eq_true rfl)),
          ⟨.p rfl (by intro X; exact op_fieldAddr (off := 5) rfl tF48_4h),
          ⟨.p rfl (by intro X; rintro _ _ ⟨rfl, rfl⟩; exact op_load1 rfl tO3h (Ent.lab (l := 2) rfl (says_cel 5))),
          ⟨.p rfl (by intro X; exact op_move rfl),
          ⟨.p rfl (by intro X; rintro _ _ ⟨rfl, rfl⟩ _ _ ⟨rfl, rfl⟩; exact op_add' rfl rfl (by omega)),
          ⟨.p rfl (by intro X; exact op_fieldAddr (off := 6) rfl tF48_5h),
          ⟨.p rfl (by intro X; rintro _ _ ⟨rfl, rfl⟩; exact op_load1 rfl tO25h (Ent.lab (l := 2) rfl (says_cel 6))),
          ⟨.px rfl (by intro X; rintro _ _ ⟨rfl, rfl⟩; refine OpT.mono (op_fn Try.func56 rfl rfl rfl (cloneI 45 (by first | exact Sl.app (by assumption) _ | exact Sl.app (Sl.app (by assumption) _) _) (by omega))) ?_; rintro _ _ ⟨a45, c45, rfl, rfl⟩; obtain ⟨w, rfl, rfl⟩ : ∃ w : Wt, w.a = a45 ∧ w.c = c45 := ⟨{ a := a45, c := c45 }, rfl, rfl⟩; exact ⟨w, rfl, rfl⟩),
          trivial⟩⟩⟩⟩⟩⟩⟩⟩)
          (fun β β' => ⟨fun _ => by rfl, ⟨fun _ => by rfl, ⟨fun _ => by rfl, ⟨fun _ => by rfl, ⟨fun _ => by rfl, ⟨fun _ => by rfl, ⟨fun _ => by rfl, ⟨fun _ => by rfl, trivial⟩⟩⟩⟩⟩⟩⟩⟩) ?_
      intro β
      rintro _ _ ⟨rfl, rfl⟩ _ _ ⟨rfl, rfl⟩ _ _ ⟨rfl, rfl⟩ _ _ ⟨rfl, rfl⟩ _ _ ⟨rfl, rfl⟩ _ _ ⟨rfl, rfl⟩ _ _ ⟨rfl, rfl⟩ _ _ ⟨rfl, rfl⟩
      generalize (β 7).a = a45
      generalize (β 7).c = c45
      refine wl_norm (e' := [(4, _), (38, _), (42, _), (45, _)]) (.cons rfl (.cons rfl (.cons rfl (.cons rfl (.nil _))))) (by dsimp only [cond_false, cond_true, List.nil_append, List.cons_append]) ?_
      refine wl_det rfl rfl rfl (op_fn Try.func55 rfl rfl rfl (like_any _ _ _ _ _ _ _ _ _)) ?_
      refine wl_op0 [4] rfl rfl rfl (op_store rfl rfl tZ48h (by rfl) (by rfl) (by exact Nat.le_of_ble_eq_true rfl)) ?_
      rintro _ _ ⟨rfl, rfl⟩
      refine wl_det rfl rfl rfl (op_assign rfl) ?_
      refine wl_nil ?_
      refine st_tn ?_
      refine w_ret ?_
      refine st_ret (vs := [_, _]) [45] Try.results23 ⟨⟨_, rfl, Ent.mono (Ent.lab (l := 4) rfl (says_cel 0)) (fun _ h => run_load_agg tA48h h (Nat.le_of_ble_eq_true rfl))⟩, ⟨rfl, trivial⟩⟩ rfl ?_
      refine ⟨[(lab, _)], rfl, ?_⟩
      unfold shiftR; rw [if_neg hc36]; exact ⟨_, _, rfl, rfl⟩

end Go.Proofs.Ytbgddblfalahfaa
