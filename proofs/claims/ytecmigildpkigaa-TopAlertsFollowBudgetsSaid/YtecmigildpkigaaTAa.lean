/- The top package's alerts: names, lists, budgets. The top package's alerts: checks that succeed. The top package's alerts: CheckInput that succeeds. The top package's alerts: a monitor in memory, its rate. The top package's alerts: the rate of a monitor. The top package's alerts: a monitor observes. The top package's alerts: evaluate, States. The top package's alerts: States. The top package's alerts: the load. The top package's alerts: Exhausted. The top package's alerts: an engine with one rule. The top package's alerts: the engine's parts. The top package's alerts: State. The top package's alerts: Observe. The top package's alerts: the example's load. The top package's alerts: Episodes. The top package's alerts: Episodes, the walk. The top package's alerts: the example. Conditions: none. -/
import Derived.Test.YtecmigildpkigaaSlZ
import Derived.Test.YtecmigildpkigaaProg
import Derived.Test.YtecmigildpkigaaSlK
import Derived.Test.YtecmigildpkigaaSlH
import Derived.Test.YtecmigildpkigaaSlI
import Derived.Test.YtecmigildpkigaaSlG
import Derived.Test.YtecmigildpkigaaSlF
import Derived.Test.YtecmigildpkigaaSlD
import Derived.Test.YtecmigildpkigaaSl3
import Derived.Test.YtecmigildpkigaaSlM
namespace Go.Proofs.Ytecmigildpkigaa
open Go Go.SL Go.RowKit
set_option linter.unusedVariables false
set_option linter.unusedSimpArgs false
theorem tO3ta : oneB Try.prog 3 = true := by kernel_rfl
theorem tS30ta : sliceB Try.prog 30 3 1 = true := by kernel_rfl
theorem take_snoc {α : Type} {l : List α} {i : Nat} {x : α} (h : l[i]? = some x) : l.take (i + 1) = l.take i ++ [x] := by rw [List.take_add_one, h]; rfl
theorem take_all {α : Type} {l : List α} {i : Nat} (h : ¬ i < l.length) : l.take i = l := List.take_of_length_le (by omega)
set_option maxHeartbeats 400000 in
set_option maxRecDepth 100000 in
theorem indexFuncI {σ : World} {F : List Res} {a : Option Addr} {c : Nat} {rl : List Int} {g : Nat} {gn : Func} {fs cs : List Value} {p : Int → Bool} (h : Sl σ F SL.encZ 1 (.slice a rl.length c) rl)
    (hg : Try.prog.funcs[g]? = some gn) (hgb : gn.body.isSome = true) (hgn : (gn.name == "runtime.NumGoroutine") = false) (hp : ∀ (X : List Res) (r : Int), FnT Try.prog σ (X ++ F) g (fs ++ [.int .i64 r] ++ cs) [] (fun u ρ => u = .bool (p r) ∧ ρ = [])) :
    FnT Try.prog σ F 68 [.slice a rl.length c, .func (.func g) fs.toArray cs.toArray] [] (fun u ρ => u = .int .i64 (match rl.findIdx? p with | some i => (i : Int) | none => -1) ∧ ρ = []) := by
  refine fn_of 19 Try.func68 rfl Try.ntmps68 rfl ?_
  have hle := h.i64
  refine w_seq (w_region (za rfl (wl_nil (st_tn (w_seq (w_seq (w_region (zm rfl (zd rfl (op_lenT rfl tS30ta (Sl.ent (by first | exact Sl.app (by assumption) _ | exact Sl.app (Sl.app (by assumption) _) _))) ?_)))))))))
  refine zm rfl (wl_nil (st_tn (w_block ?_)))
  refine w_loopQ (X := Nat) (fun z => z ≤ rl.length ∧ ∀ r ∈ rl.take z, p r = false) (fun z => [(8, .int .i64 (z))]) (fun _ => []) (fun z => rl.length - z) (0) [(0, _), (1, _), (7, _)] [] [] rfl (rfl) (.cons rfl (.nil _)) (.cons rfl (.cons rfl (.cons rfl (.nil _)))) (by
      try dsimp only
      exact ⟨Nat.zero_le _, by simp⟩) ?_
  rintro i ⟨hi, hn⟩
  refine w_norm2 (by dsimp only [List.cons_append, List.nil_append]) (by dsimp only [List.cons_append, List.nil_append]) ?_
  try dsimp only at hi hn ⊢
  refine w_seq (w_region (zd rfl (op_lss rfl rfl) (wl_nil (st_tn (w_seq (w_cond_d rfl (fun hc9 => ?_) (fun hc9 => ?_)))))))
  · -- c9.t
    obtain ⟨r, hr⟩ := getE (l := rl) (i := i) (by omega)
    have hlt := ltE hr
    refine w_skip (st_tn (w_seq (w_block (w_seq (w_region (zm rfl (za rfl (wl_nil (st_tn (w_seq (w_region (zm rfl (zm rfl ?_)))))))))))))
    refine zm rfl (zd rfl (op_idx rfl rfl tS30ta (Sl.ent (by first | exact Sl.app (by assumption) _ | exact Sl.app (Sl.app (by assumption) _) _)) (by omega)) ?_)
    refine zd rfl (op_ldx rfl tO3ta (by first | exact Sl.app (by assumption) _ | exact Sl.app (Sl.app (by assumption) _) _) (by assumption) (by rfl)) ?_
    refine zd rfl (op_fnv hg hgb hgn rfl rfl (hp _ r)) (wl_nil (st_tn (w_cond rfl (fun hc16 => ?_) (fun hc16 => ?_))))
    · -- c16.t
      refine w_seq (w_region (zm rfl (za rfl (wl_nil (st_tn (w_ret (st_br (st_tr (st_tr (st_br (st_tr (st_ret (vs := [_]) [] Try.results68 ⟨rfl, trivial⟩ rfl ?_))))))))))))
      refine ⟨_, rfl, ?_⟩
      refine ⟨?_, rfl⟩
      have : rl.findIdx? p = some i := by
        rw [List.findIdx?_eq_some_iff_getElem]
        obtain ⟨hlt', hge⟩ := List.getElem?_eq_some_iff.1 hr
        refine ⟨hlt', by rw [hge]; exact hc16, fun j hj => ?_⟩
        rw [hn _ (List.mem_take_iff_getElem.2 ⟨j, by omega, rfl⟩)]; simp
      rw [this]; rfl
    · -- c16.f
      refine w_skip (st_bn (st_tn (w_region (zd rfl (op_add' rfl rfl (by omega)) ?_))))
      refine zm rfl (wl_nil ?_)
      refine st_roundQ (x := i) (i + 1) [] rfl (rfl) (.cons rfl (.nil _)) (.cons rfl (.cons rfl (.cons rfl (.nil _)))) (by
          try dsimp only
          refine ⟨by omega, by rw [take_snoc hr]; intro q hq; rcases List.mem_append.1 hq with hq | hq; (· exact hn q hq); (· simp at hq; subst hq; exact hc16)⟩) (by
          try dsimp only
          omega)
  · -- c9.f
    refine w_exit (st_te ?_)
    refine st_te ?_
    refine st_be (st_tn (w_seq (w_region (za rfl (wl_nil (st_tn (w_ret (st_ret (vs := [_]) [] Try.results68 ⟨rfl, trivial⟩ rfl ?_))))))))
    refine ⟨_, rfl, ?_⟩
    refine ⟨?_, rfl⟩; rw [take_all (by omega)] at hn
    have : rl.findIdx? p = none := by rw [List.findIdx?_eq_none_iff]; exact hn
    rw [this]; rfl
set_option maxHeartbeats 400000 in
set_option maxRecDepth 100000 in
theorem containsFuncI {σ : World} {F : List Res} {a : Option Addr} {c : Nat} {rl : List Int} {g : Nat} {gn : Func} {fs cs : List Value} {p : Int → Bool} (h : Sl σ F SL.encZ 1 (.slice a rl.length c) rl)
    (hg : Try.prog.funcs[g]? = some gn) (hgb : gn.body.isSome = true) (hgn : (gn.name == "runtime.NumGoroutine") = false) (hp : ∀ (X : List Res) (r : Int), FnT Try.prog σ (X ++ F) g (fs ++ [.int .i64 r] ++ cs) [] (fun u ρ => u = .bool (p r) ∧ ρ = [])) :
    FnT Try.prog σ F 62 [.slice a rl.length c, .func (.func g) fs.toArray cs.toArray] [] (fun u ρ => u = .bool (rl.any p) ∧ ρ = []) := by
  refine fn_of 9 Try.func62 rfl Try.ntmps62 rfl ?_
  refine w_seq (w_region (za rfl (wl_nil (st_tn (w_seq (w_region (zm rfl (zm rfl (zd rfl (op_fn Try.func68 rfl rfl rfl (indexFuncI (Sl.app h _) hg hgb hgn (fun X r => by simpa using hp (X ++ rs []) r))) ?_)))))))))
  refine zd rfl (op_geq rfl rfl) (za rfl (wl_nil (st_tn (w_ret (st_ret (vs := [_]) [] Try.results62 ⟨rfl, trivial⟩ rfl ?_)))))
  refine ⟨_, rfl, ?_⟩
  refine ⟨?_, rfl⟩
  cases hf : rl.findIdx? p with
  | none => rw [List.findIdx?_eq_none_iff] at hf; simp [retv]; intro x hx; exact hf x hx
  | some i => obtain ⟨hlt, h1, _⟩ := List.findIdx?_eq_some_iff_getElem.1 hf; simp [retv]; exact ⟨_, List.getElem_mem hlt, h1⟩
theorem ba_get (s : ByteArray) (i : Nat) : s[i]? = s.data.toList[i]? := by
  by_cases h : i < s.size
  · rw [getElem?_pos s i h, List.getElem?_eq_getElem (by rw [Array.length_toList]; exact h)]; rfl
  · rw [getElem?_neg s i h, List.getElem?_eq_none (by rw [Array.length_toList]; exact Nat.le_of_not_lt h)]
def within (lo hi : Int) (s : ByteArray) : Prop := ∀ b ∈ s.data.toList, lo ≤ (b.toNat : Int) ∧ (b.toNat : Int) ≤ hi
instance (lo hi : Int) (s : ByteArray) : Decidable (within lo hi s) := by unfold within; infer_instance
set_option maxHeartbeats 400000 in
set_option maxRecDepth 100000 in
theorem within_any {σ : World} {F : List Res} (s : ByteArray) (lo hi : Int) (hs : s.size ≤ maxLen) (h0 : 0 ≤ lo ∧ lo ≤ 255) (h1 : 0 ≤ hi ∧ hi ≤ 255) : FnT Try.prog σ F 64 [.string s, .int .u8 lo, .int .u8 hi] [] (fun u ρ => u = .bool (decide (within lo hi s)) ∧ ρ = []) := by
  refine fn_of 26 Try.func64 rfl Try.ntmps64 rfl ?_
  have hls : s.data.toList.length = s.size := by rw [Array.length_toList]; rfl
  unfold maxLen at hs
  refine w_seq (w_region (za rfl (wl_nil (st_tn (w_seq (w_seq (w_region (zm rfl (zd rfl (op_lenS rfl Try.underlying9) (zm rfl (wl_nil (st_tn (w_block ?_)))))))))))))
  refine w_loopQ (X := Nat) (fun z => z ≤ s.size ∧ ∀ b ∈ s.data.toList.take z, lo ≤ (b.toNat : Int) ∧ (b.toNat : Int) ≤ hi) (fun z => [(10, .int .i64 (z))]) (fun _ => []) (fun z => s.size - z) (0) [(0, _), (1, _), (2, _), (9, _)] [] [] rfl (rfl) (.cons rfl (.nil _)) (.cons rfl (.cons rfl (.cons rfl (.cons rfl (.nil _))))) (by
      try dsimp only
      exact ⟨Nat.zero_le _, by simp⟩) ?_
  rintro i ⟨hi0, hn⟩
  refine w_norm2 (by dsimp only [List.cons_append, List.nil_append]) (by dsimp only [List.cons_append, List.nil_append]) ?_
  try dsimp only at hi0 hn ⊢
  refine w_seq (w_region (zd rfl (op_lss rfl rfl) (wl_nil (st_tn (w_seq (w_cond_d rfl (fun hc11 => ?_) (fun hc11 => ?_)))))))
  · -- c11.t
    obtain ⟨b, hb⟩ : ∃ b, s[i]? = some b := ⟨s[i], getElem?_pos s i (by omega)⟩
    have hb' : s.data.toList[i]? = some b := by rw [← ba_get]; exact hb
    refine w_skip (st_tn (w_seq (w_block (w_seq (w_region (zm rfl (za rfl (wl_nil (st_tn (w_seq (w_cutL [(24, .bool (decide ((b.toNat : Int) < lo ∨ (b.toNat : Int) > hi)))] [0, 1, 2, 9, 10] [] rfl (fun K' hK => ?_) ?_)))))))))))
    · -- cut r4
      refine w_region (zm rfl (zm rfl (zd rfl (op_idxS rfl rfl Try.underlying9 (by assumption)) ?_)))
      refine zm rfl (zd rfl (op_lss rfl rfl) (zm rfl (wl_gsplit (t := 18) rfl (fun hg18 => ?_) (fun hg18 => ?_))))
      · -- 18 is True
        refine wl_unwanted rfl rfl rfl rfl rfl rfl rfl rfl (wl_unwanted rfl rfl rfl rfl rfl rfl rfl rfl (wl_unwanted rfl rfl rfl rfl rfl rfl rfl rfl (wl_unwanted rfl rfl rfl rfl rfl rfl rfl rfl (wl_unwanted rfl rfl rfl rfl rfl rfl rfl rfl (zd rfl (op_pick_t rfl rfl) (wl_nil (st_tn ?_)))))))
        exact cut_done1 [] hK rfl (by first | (rw [decide_eq_decide]; omega) | (symm; rw [decide_eq_false_iff_not]; omega) | (symm; rw [decide_eq_true_iff]; omega) | (simp; done) | (simp; omega) | (simp [*]; done) | (simp [*]; omega)) (by rfl) rfl rfl
      · -- 18 is False
        refine wl_wanted_det rfl rfl rfl rfl rfl rfl rfl (op_move rfl) (wl_wanted_det rfl rfl rfl rfl rfl rfl rfl (op_move rfl) (wl_wanted_det rfl rfl rfl rfl rfl rfl rfl (op_idxS rfl rfl Try.underlying9 (by assumption)) ?_))
        refine wl_wanted_det rfl rfl rfl rfl rfl rfl rfl (op_move rfl) (wl_wanted_det rfl rfl rfl rfl rfl rfl rfl (op_gtr rfl rfl) (zd rfl (op_pick_f rfl rfl) (wl_nil (st_tn ?_))))
        exact cut_done1 [] hK rfl (by first | (rw [decide_eq_decide]; omega) | (symm; rw [decide_eq_false_iff_not]; omega) | (symm; rw [decide_eq_true_iff]; omega) | (simp; done) | (simp; omega) | (simp [*]; done) | (simp [*]; omega)) (by rfl) rfl rfl
    · -- behind r4
      show W _ _ _ _ _ [(24, _), (0, _), (1, _), (2, _), (9, _), (10, _)] [] _
      refine w_cond_d rfl (fun hc24 => ?_) (fun hc24 => ?_)
      · -- c24.t
        refine w_seq (w_region (za rfl (wl_nil (st_tn (w_ret (st_br (st_tr (st_tr (st_br (st_tr (st_ret (vs := [_]) [] Try.results64 ⟨rfl, trivial⟩ rfl ?_)))))))))))
        refine ⟨_, rfl, ?_⟩
        refine ⟨?_, rfl⟩; have : ¬ within lo hi s := fun h => by have := h b (List.mem_of_getElem? hb'); omega
        simp [retv, this]
      · -- c24.f
        refine w_skip (st_bn (st_tn (w_region (zd rfl (op_add' rfl rfl (by omega)) ?_))))
        refine zm rfl (wl_nil ?_)
        refine st_roundQ (x := i) (i + 1) [] rfl (rfl) (.cons rfl (.nil _)) (.cons rfl (.cons rfl (.cons rfl (.cons rfl (.nil _))))) (by
            try dsimp only
            refine ⟨by omega, by rw [take_snoc hb']; intro q hq; rcases List.mem_append.1 hq with hq | hq; (· exact hn q hq); (· simp only [List.mem_singleton] at hq; subst hq; omega)⟩) (by
            try dsimp only
            omega)
  · -- c11.f
    refine w_exit (st_te ?_)
    refine st_te ?_
    refine st_be (st_tn (w_seq (w_region (za rfl (wl_nil (st_tn (w_ret (st_ret (vs := [_]) [] Try.results64 ⟨rfl, trivial⟩ rfl ?_))))))))
    refine ⟨_, rfl, ?_⟩
    refine ⟨?_, rfl⟩; rw [take_all (by omega)] at hn; have : within lo hi s := hn
    simp [retv, this]
def nameP (s : ByteArray) : Prop := (s ≠ ⟨#[]⟩ ∧ (s.size : Int) ≤ 64) ∧ within 33 126 s
instance (s : ByteArray) : Decidable (nameP s) := by unfold nameP; infer_instance
set_option maxHeartbeats 400000 in
set_option maxRecDepth 100000 in
theorem isName_any {σ : World} {F : List Res} (s : ByteArray) (hs : s.size ≤ maxLen) : FnT Try.prog σ F 48 [.string s] [] (fun u ρ => u = .bool (decide (nameP s)) ∧ ρ = []) := by
  refine fn_of 14 Try.func48 rfl Try.ntmps48 rfl ?_
  refine w_seq (w_region (za rfl (wl_nil (st_tn (w_seq (w_region (zm rfl (zd rfl (op_neStr rfl rfl) (zm rfl (wl_gsplit (t := 5) rfl (fun hg5 => ?_) (fun hg5 => ?_)))))))))))
  · -- 5 is True
    refine wl_wanted_det rfl rfl rfl rfl rfl rfl rfl (op_move rfl) (wl_wanted_det rfl rfl rfl rfl rfl rfl rfl (op_lenS rfl Try.underlying9) (wl_wanted_det rfl rfl rfl rfl rfl rfl rfl (op_leq rfl rfl) (zd rfl (op_pick_t rfl rfl) (zm rfl (wl_gsplit (t := 10) rfl (fun hg10 => ?_) (fun hg10 => ?_))))))
    · -- 10 is True
      refine wl_wanted_det rfl rfl rfl rfl rfl rfl rfl (op_move rfl) (wl_wanted_det rfl rfl rfl rfl rfl rfl rfl (op_fn Try.func64 rfl rfl rfl (within_any _ _ _ (by assumption) (by omega) (by omega))) ?_)
      refine zd rfl (op_pick_t rfl rfl) (za rfl (wl_nil (st_tn (w_ret (st_ret (vs := [_]) [] Try.results48 ⟨rfl, trivial⟩ rfl ?_)))))
      refine ⟨_, rfl, ?_⟩
      refine ⟨?_, rfl⟩
      unfold nameP
      first | (simp [retv, *]; done) | (simp [retv, *]; omega) | (simp_all [retv]; done)
    · -- 10 is False
      refine wl_unwanted rfl rfl rfl rfl rfl rfl rfl rfl (wl_unwanted rfl rfl rfl rfl rfl rfl rfl rfl (zd rfl (op_pick_f rfl rfl) (za rfl (wl_nil (st_tn (w_ret (st_ret (vs := [_]) [] Try.results48 ⟨rfl, trivial⟩ rfl ?_)))))))
      refine ⟨_, rfl, ?_⟩
      refine ⟨?_, rfl⟩
      unfold nameP
      first | (simp [retv, *]; done) | (simp [retv, *]; omega) | (simp_all [retv]; done)
  · -- 5 is False
    refine wl_unwanted rfl rfl rfl rfl rfl rfl rfl rfl (wl_unwanted rfl rfl rfl rfl rfl rfl rfl rfl (wl_unwanted rfl rfl rfl rfl rfl rfl rfl rfl (zd rfl (op_pick_f rfl rfl) (zm rfl (wl_unwanted rfl rfl rfl rfl rfl rfl rfl rfl (wl_unwanted rfl rfl rfl rfl rfl rfl rfl rfl (zd rfl (op_pick_f rfl rfl) (za rfl (wl_nil (st_tn (w_ret (st_ret (vs := [_]) [] Try.results48 ⟨rfl, trivial⟩ rfl ?_))))))))))))
    refine ⟨_, rfl, ?_⟩
    refine ⟨?_, rfl⟩
    unfold nameP
    first | (simp [retv, *]; done) | (simp [retv, *]; omega) | (simp_all [retv]; done)
set_option maxHeartbeats 400000 in
set_option maxRecDepth 100000 in
theorem badv_any {σ : World} {F : List Res} (x : Int) : FnT Try.prog σ F 63 [.int .i64 x] [] (fun u ρ => u = .bool (decide (x < 0 ∨ x > 1099511627776)) ∧ ρ = []) := by
  refine fn_of 9 Try.func63 rfl Try.ntmps63 rfl ?_
  refine w_seq (w_region (za rfl (wl_nil (st_tn (w_seq (w_region (zm rfl (zd rfl (op_lss rfl rfl) (zm rfl (wl_gsplit (t := 5) rfl (fun hg5 => ?_) (fun hg5 => ?_)))))))))))
  · -- 5 is True
    refine wl_unwanted rfl rfl rfl rfl rfl rfl rfl rfl (wl_unwanted rfl rfl rfl rfl rfl rfl rfl rfl (zd rfl (op_pick_t rfl rfl) (za rfl (wl_nil (st_tn (w_ret (st_ret (vs := [_]) [] Try.results63 ⟨rfl, trivial⟩ rfl ?_)))))))
    refine ⟨_, rfl, ?_⟩
    refine ⟨?_, rfl⟩
    first | (simp [retv, *]; done) | (simp [retv, *]; omega)
  · -- 5 is False
    refine wl_wanted_det rfl rfl rfl rfl rfl rfl rfl (op_move rfl) (wl_wanted_det rfl rfl rfl rfl rfl rfl rfl (op_gtr rfl rfl) (zd rfl (op_pick_f rfl rfl) (za rfl (wl_nil (st_tn (w_ret (st_ret (vs := [_]) [] Try.results63 ⟨rfl, trivial⟩ rfl ?_)))))))
    refine ⟨_, rfl, ?_⟩
    refine ⟨?_, rfl⟩
    first | (simp [retv, *]; done) | (simp [retv, *]; omega)
set_option maxHeartbeats 400000 in
set_option maxRecDepth 100000 in
theorem isTarget_any {σ : World} {F : List Res} (x : Int) : FnT Try.prog σ F 30 [.int .i64 x] [] (fun u ρ => u = .bool (decide (0 ≤ x ∧ x < 1000000)) ∧ ρ = []) := by
  refine fn_of 9 Try.func30 rfl Try.ntmps30 rfl ?_
  refine w_seq (w_region (za rfl (wl_nil (st_tn (w_seq (w_region (zm rfl (zd rfl (op_geq rfl rfl) (zm rfl (wl_gsplit (t := 5) rfl (fun hg5 => ?_) (fun hg5 => ?_)))))))))))
  · -- 5 is True
    refine wl_wanted_det rfl rfl rfl rfl rfl rfl rfl (op_move rfl) (wl_wanted_det rfl rfl rfl rfl rfl rfl rfl (op_lss rfl rfl) (zd rfl (op_pick_t rfl rfl) (za rfl (wl_nil (st_tn (w_ret (st_ret (vs := [_]) [] Try.results30 ⟨rfl, trivial⟩ rfl ?_)))))))
    refine ⟨_, rfl, ?_⟩
    refine ⟨?_, rfl⟩
    first | (simp [retv, *]; done) | (simp [retv, *]; omega)
  · -- 5 is False
    refine wl_unwanted rfl rfl rfl rfl rfl rfl rfl rfl (wl_unwanted rfl rfl rfl rfl rfl rfl rfl rfl (zd rfl (op_pick_f rfl rfl) (za rfl (wl_nil (st_tn (w_ret (st_ret (vs := [_]) [] Try.results30 ⟨rfl, trivial⟩ rfl ?_)))))))
    refine ⟨_, rfl, ?_⟩
    refine ⟨?_, rfl⟩
    first | (simp [retv, *]; done) | (simp [retv, *]; omega)
def burnZ (e t g : Int) : Int := if t = 0 then 0 else e * 1000000000 / (t * (1000000 - g))
set_option maxHeartbeats 400000 in
set_option maxRecDepth 100000 in
theorem burn_any {σ : World} {F : List Res} (e t g : Int) (he : 0 ≤ e ∧ e ≤ 1048576) (ht : 0 ≤ t ∧ t ≤ 1048576) (hg : 0 ≤ g ∧ g < 1000000) : FnT Try.prog σ F 31 [.int .i64 e, .int .i64 t, .int .i64 g] [] (fun u ρ => u = .int .i64 (burnZ e t g) ∧ ρ = []) := by
  refine fn_of 16 Try.func31 rfl Try.ntmps31 rfl ?_
  refine w_seq (w_region (za rfl (wl_nil (st_tn (w_seq (w_seq (w_region (zm rfl (zd rfl (op_eql rfl rfl) (wl_nil (st_tn (w_cond_d rfl (fun hc8 => ?_) (fun hc8 => ?_)))))))))))))
  · -- c8.t
    refine w_seq (w_region (za rfl (wl_nil (st_tn (w_ret (st_tr (st_ret (vs := [_]) [] Try.results31 ⟨rfl, trivial⟩ rfl ?_)))))))
    refine ⟨_, rfl, ?_⟩
    unfold burnZ; rw [if_pos hc8]; exact ⟨rfl, rfl⟩
  · -- c8.f
    refine w_skip (st_tn (w_seq ?_))
    have hm1 : t * (1000000 - g) ≤ 1048576 * 1000000 := Int.mul_le_mul (by omega) (by omega) (by omega) (by omega)
    have hm0 : 1 * 1 ≤ t * (1000000 - g) := Int.mul_le_mul (by omega) (by omega) (by omega) (by omega)
    refine w_region (zm rfl (zd rfl (op_mul' rfl rfl (by omega)) ?_))
    refine zm rfl (zm rfl (zd rfl (op_sub' rfl rfl (by omega)) ?_))
    refine zd rfl (op_mul' rfl rfl (by omega)) ?_
    refine zd rfl (op_quoN rfl rfl (by omega) (by omega) (by omega)) ?_
    refine za rfl (wl_nil (st_tn (w_ret (st_ret (vs := [_]) [] Try.results31 ⟨rfl, trivial⟩ rfl ?_))))
    refine ⟨_, rfl, ?_⟩
    unfold burnZ; rw [if_neg hc8]; exact ⟨rfl, rfl⟩
def budZ (t g : Int) : Int := t * (1000000 - g) / 1000000
set_option maxHeartbeats 400000 in
set_option maxRecDepth 100000 in
theorem budget_any {σ : World} {F : List Res} (t g : Int) (ht : 0 ≤ t ∧ t ≤ 1048576) (hg : 0 ≤ g ∧ g < 1000000) : FnT Try.prog σ F 11 [.int .i64 t, .int .i64 g] [] (fun u ρ => u = .tuple #[.int .i64 (budZ t g), .int .i64 0] ∧ ρ = []) := by
  refine fn_of 22 Try.func11 rfl Try.ntmps11 rfl ?_
  have hm1 : t * (1000000 - g) ≤ 1048576 * 1000000 := Int.mul_le_mul (by omega) (by omega) (by omega) (by omega)
  have hm0 : 0 ≤ t * (1000000 - g) := Int.mul_nonneg (by omega) (by omega)
  refine w_seq (w_region (za rfl (za rfl (wl_nil (st_tn (w_seq (w_seq (w_region (zm rfl (zd rfl (op_fn Try.func30 rfl rfl rfl (isTarget_any g)) (zd rfl (op_val (v' := .bool false) (by rw [decide_eq_false (by omega)]) (op_not_d rfl)) ?_)))))))))))
  refine zm rfl (wl_wanted_det rfl rfl rfl rfl rfl rfl rfl (op_move rfl) (wl_wanted_det rfl rfl rfl rfl rfl rfl rfl (op_val (v' := .bool false) (by rw [decide_eq_false (by omega)]) (op_lss rfl rfl)) ?_))
  refine zd rfl (op_pick_f rfl rfl) (zm rfl (wl_wanted_det rfl rfl rfl rfl rfl rfl rfl (op_move rfl) (wl_wanted_det rfl rfl rfl rfl rfl rfl rfl (op_val (v' := .bool false) (by rw [decide_eq_false (by omega)]) (op_gtr rfl rfl)) ?_)))
  refine zd rfl (op_pick_f rfl rfl) (wl_nil (st_tn (w_cond_f (rfl) ?_)))
  refine w_skip (st_tn (w_seq (w_region (zm rfl (zm rfl (zd rfl (op_sub' rfl rfl (by omega)) ?_))))))
  refine zd rfl (op_mul' rfl rfl (by omega)) ?_
  refine zd rfl (op_quoN rfl rfl (by omega) (by omega) (by omega)) ?_
  refine za rfl (za rfl (wl_nil (st_tn (w_ret (st_ret (vs := [_, _]) [] Try.results11 ⟨rfl, ⟨rfl, trivial⟩⟩ rfl ?_)))))
  refine ⟨_, rfl, ?_⟩
  exact ⟨rfl, rfl⟩
set_option maxHeartbeats 400000 in
set_option maxRecDepth 100000 in
theorem Burn_any {σ : World} {F : List Res} (e t g : Int) (he : 0 ≤ e ∧ e ≤ t) (ht : 0 ≤ t ∧ t ≤ 1048576) (hg : 0 ≤ g ∧ g < 1000000) : FnT Try.prog σ F 12 [.int .i64 e, .int .i64 t, .int .i64 g] [] (fun u ρ => u = .tuple #[.int .i64 (burnZ e t g), .int .i64 0] ∧ ρ = []) := by
  refine fn_of 32 Try.func12 rfl Try.ntmps12 rfl ?_
  refine w_seq (w_region (za rfl (za rfl (wl_nil (st_tn (w_seq (w_seq (w_region (zm rfl (zd rfl (op_fn Try.func30 rfl rfl rfl (isTarget_any g)) (zd rfl (op_val (v' := .bool false) (by rw [decide_eq_false (by omega)]) (op_not_d rfl)) ?_)))))))))))
  refine zm rfl (wl_wanted_det rfl rfl rfl rfl rfl rfl rfl (op_move rfl) (wl_wanted_det rfl rfl rfl rfl rfl rfl rfl (op_val (v' := .bool false) (by rw [decide_eq_false (by omega)]) (op_lss rfl rfl)) ?_))
  refine zd rfl (op_pick_f rfl rfl) (zm rfl (wl_wanted_det rfl rfl rfl rfl rfl rfl rfl (op_move rfl) (wl_wanted_det rfl rfl rfl rfl rfl rfl rfl (op_val (v' := .bool false) (by rw [decide_eq_false (by omega)]) (op_gtr rfl rfl)) ?_)))
  refine zd rfl (op_pick_f rfl rfl) (zm rfl (wl_wanted_det rfl rfl rfl rfl rfl rfl rfl (op_move rfl) (wl_wanted_det rfl rfl rfl rfl rfl rfl rfl (op_val (v' := .bool false) (by rw [decide_eq_false (by omega)]) (op_lss rfl rfl)) ?_)))
  refine zd rfl (op_pick_f rfl rfl) (zm rfl (wl_wanted_det rfl rfl rfl rfl rfl rfl rfl (op_move rfl) (wl_wanted_det rfl rfl rfl rfl rfl rfl rfl (op_move rfl) (wl_wanted_det rfl rfl rfl rfl rfl rfl rfl (op_val (v' := .bool false) (by rw [decide_eq_false (by omega)]) (op_gtr rfl rfl)) ?_))))
  refine zd rfl (op_pick_f rfl rfl) (wl_nil (st_tn (w_cond_f (rfl) ?_)))
  refine w_skip (st_tn (w_seq (w_region (zm rfl (zm rfl (zm rfl (zd rfl (op_fn Try.func31 rfl rfl rfl (burn_any e t g (by omega) ht hg)) ?_)))))))
  refine za rfl (za rfl (wl_nil (st_tn (w_ret (st_ret (vs := [_, _]) [] Try.results12 ⟨rfl, ⟨rfl, trivial⟩⟩ rfl ?_)))))
  refine ⟨_, rfl, ?_⟩
  exact ⟨rfl, rfl⟩
end Go.Proofs.Ytecmigildpkigaa
namespace Go.Proofs.Ytecmigildpkigaa
open Go Go.SL Go.RowKit
set_option linter.unusedVariables false
set_option linter.unusedSimpArgs false
theorem tA29tb : aggB Try.prog 29 2 = true := by kernel_rfl
theorem tB29tb : placesB Try.prog 29 = some ([(0, 1), (1, 1)], [Value.int .i64 0, Value.int .i64 0]) := by kernel_rfl
theorem tF27_0tb : fieldB Try.prog 27 0 0 = true := by kernel_rfl
theorem tF27_1tb : fieldB Try.prog 27 1 1 = true := by kernel_rfl
theorem tF27_2tb : fieldB Try.prog 27 2 2 = true := by kernel_rfl
theorem tF27_3tb : fieldB Try.prog 27 3 3 = true := by kernel_rfl
theorem tF27_4tb : fieldB Try.prog 27 4 4 = true := by kernel_rfl
theorem tF27_5tb : fieldB Try.prog 27 5 5 = true := by kernel_rfl
theorem tF27_6tb : fieldB Try.prog 27 6 6 = true := by kernel_rfl
theorem tF27_7tb : fieldB Try.prog 27 7 7 = true := by kernel_rfl
theorem tF32_0tb : fieldB Try.prog 32 0 0 = true := by kernel_rfl
theorem tF32_1tb : fieldB Try.prog 32 1 1 = true := by kernel_rfl
theorem tF32_2tb : fieldB Try.prog 32 2 2 = true := by kernel_rfl
theorem tF32_3tb : fieldB Try.prog 32 3 3 = true := by kernel_rfl
theorem tF32_4tb : fieldB Try.prog 32 4 5 = true := by kernel_rfl
theorem tF32_5tb : fieldB Try.prog 32 5 6 = true := by kernel_rfl
theorem tG29tb : Try.prog.eqGuardType Try.prog.depth 29 = false := by kernel_rfl
theorem tO3tb : oneB Try.prog 3 = true := by kernel_rfl
theorem tO30tb : oneB Try.prog 30 = true := by kernel_rfl
theorem tO9tb : oneB Try.prog 9 = true := by kernel_rfl
theorem tS30tb : sliceB Try.prog 30 3 1 = true := by kernel_rfl
theorem eq29 (a b c d : Int) (w : World) : (Op.equal 29 (.agg #[.int .i64 a, .int .i64 b]) (.agg #[.int .i64 c, .int .i64 d])).run Try.prog w = .ok (decide ((a, b) = (c, d))) w := by
  have hs : Try.prog.stoodInHeld 29 = false := by kernel_rfl
  have hf : Try.prog.fieldsOf 29 = #[{ name := "Num", type := 3, offset := 0, embedded := false, tag := "", pkgPath := "", byteOffset := 0 }, { name := "Den", type := 3, offset := 1, embedded := false, tag := "", pkgPath := "", byteOffset := 8 }] := by kernel_rfl
  have ha : ∀ w, (isAgg 3).run Try.prog w = .ok false w := fun w => by unfold isAgg; rw [Sem.run_bind, run_underlying Try.underlying3 w]; rfl
  show (Op.equalIn (9999 + 1) 29 _ _).run Try.prog w = _
  rw [run_equalIn_agg w 9999 29 _ _ (by kernel_rfl) hs, hf]
  simp only [Op.eqFields, List.toList_toArray]
  simp [part, Sem.run_bind, ha, run_equalIn_int w 9998 3 .i64 .i64 _ _ Try.underlying3, Op.eqFields]
  by_cases h1 : a = c <;> by_cases h2 : b = d <;> simp [h1, h2, part, Sem.run_bind, ha, run_equalIn_int w 9998 3 .i64 .i64 _ _ Try.underlying3, Op.eqFields]
structure RuV where
  name : ByteArray
  svc : ByteArray
  op : ByteArray
  tgt : Int
  long : Int
  short : Int
  brn : Int
  fr : Int
def encRu (r : RuV) : List Value := [.string r.name, .string r.svc, .string r.op, .int .i64 r.tgt, .int .i64 r.long, .int .i64 r.short, .int .i64 r.brn, .int .i64 r.fr]
structure RuOk (r : RuV) : Prop where
  n1 : nameP r.name
  n2 : nameP r.svc
  op : r.op = ⟨#[]⟩
  tgt : 0 ≤ r.tgt ∧ r.tgt < 1000000
  short : 1 ≤ r.short ∧ r.short ≤ r.long ∧ r.long ≤ 256
  brn : 1 ≤ r.brn ∧ r.brn ≤ 1000000000
  fr : 0 ≤ r.fr ∧ r.fr ≤ 256
structure SeV where
  svc : ByteArray
  op : ByteArray
  met : Int
  qn : Int
  qd : Int
  fr : Int
  a : Option Addr
  c : Nat
  vals : List Int
def encSe (x : SeV) : List Value := [.string x.svc, .string x.op, .int .i64 x.met, .int .i64 x.qn, .int .i64 x.qd, .int .i64 x.fr, .slice x.a x.vals.length x.c]
structure SeOk (x : SeV) : Prop where
  n1 : nameP x.svc
  op : x.op = ⟨#[]⟩
  met : 1 ≤ x.met ∧ x.met ≤ 2
  qn : x.qn = 0
  qd : x.qd = 0
  fr : 0 ≤ x.fr ∧ x.fr ≤ 1000000
  len : x.vals.length ≤ 100
  vals : ∀ v ∈ x.vals, 0 ≤ v ∧ v ≤ 1000
theorem name_len {s : ByteArray} (h : nameP s) : s.size ≤ maxLen := by have := h.1.2; unfold maxLen; omega
theorem isName_ok {σ : World} {F : List Res} {s : ByteArray} (h : nameP s) : FnT Try.prog σ F 48 [.string s] [] (fun u ρ => u = .bool true ∧ ρ = []) :=
  fn_imp (isName_any s (name_len h)) fun u ρ hu => ⟨by rw [hu.1, decide_eq_true h], hu.2⟩
set_option maxHeartbeats 400000 in
set_option maxRecDepth 100000 in
theorem acheck_ok {σ : World} {F : List Res} {r : RuV} (hr : RuOk r) : FnT Try.prog σ F 27 [.agg (encRu r).toArray] [] (fun u ρ => u = .int .i64 0 ∧ ρ = []) := by
  refine fn_of 61 Try.func27 rfl Try.ntmps27 rfl ?_
  have h1 := hr.tgt
  have h2 := hr.short
  have h3 := hr.brn
  have h4 := hr.fr
  refine w_seq (w_region (wl_op [] rfl rfl rfl rfl (op_box (T := 27) (l := 1) rfl) ?_))
  rintro _ _ ⟨b1, rfl, rfl⟩
  refine za rfl (wl_nil (st_tn (w_seq (w_block (w_seq (w_region (zd rfl (op_fieldAddr (off := 0) rfl tF27_0tb) (zd rfl (op_load1 rfl tO9tb (Ent.lab (l := 1) rfl (says_cel 0))) (zd rfl (op_fn Try.func48 rfl rfl rfl (isName_ok hr.n1)) (zd rfl (op_not_t rfl) (zm rfl (wl_wanted_det rfl rfl rfl rfl rfl rfl rfl (op_fieldAddr (off := 1) rfl tF27_1tb) (wl_wanted_det rfl rfl rfl rfl rfl rfl rfl (op_load1 rfl tO9tb (Ent.lab (l := 1) rfl (says_cel 1))) ?_)))))))))))))
  refine wl_wanted_det rfl rfl rfl rfl rfl rfl rfl (op_fn Try.func48 rfl rfl rfl (isName_ok hr.n2)) (wl_wanted_det rfl rfl rfl rfl rfl rfl rfl (op_not_t rfl) (zd rfl (op_pick_f rfl rfl) (zm rfl (wl_wanted_det rfl rfl rfl rfl rfl rfl rfl (op_fieldAddr (off := 2) rfl tF27_2tb) (wl_wanted_det rfl rfl rfl rfl rfl rfl rfl (op_load1 rfl tO9tb (Ent.lab (l := 1) rfl (says_cel 2))) (wl_wanted_det rfl rfl rfl rfl rfl rfl rfl (op_val (v' := .bool false) (by rw [decide_eq_false (fun h => h hr.op)]) (op_neStr rfl rfl)) ?_))))))
  refine wl_wanted_det rfl rfl rfl rfl rfl rfl rfl (op_move rfl) (wl_unwanted rfl rfl rfl rfl rfl rfl rfl rfl (wl_unwanted rfl rfl rfl rfl rfl rfl rfl rfl (wl_unwanted rfl rfl rfl rfl rfl rfl rfl rfl (wl_unwanted rfl rfl rfl rfl rfl rfl rfl rfl (wl_wanted_det rfl rfl rfl rfl rfl rfl rfl (op_pick_f rfl rfl) (zd rfl (op_pick_f rfl rfl) (za rfl (wl_nil (st_tn (w_cond_f (rfl) ?_))))))))))
  refine w_seq (w_seq (w_region (zd rfl (op_fieldAddr (off := 3) rfl tF27_3tb) (zd rfl (op_load1 rfl tO3tb (Ent.lab (l := 1) rfl (says_cel 3))) (zd rfl (op_fn Try.func30 rfl rfl rfl (isTarget_any r.tgt)) (zd rfl (op_val (v' := .bool false) (by rw [decide_eq_false (by omega)]) (op_not_d rfl)) ?_))))))
  refine za rfl (wl_nil (st_tn (w_cond_f (rfl) ?_)))
  refine w_seq (w_region (zd rfl (op_fieldAddr (off := 5) rfl tF27_5tb) (zd rfl (op_load1 rfl tO3tb (Ent.lab (l := 1) rfl (says_cel 5))) (zd rfl (op_val (v' := .bool false) (by rw [decide_eq_false (by omega)]) (op_lss rfl rfl)) ?_))))
  refine zm rfl (wl_wanted_det rfl rfl rfl rfl rfl rfl rfl (op_fieldAddr (off := 5) rfl tF27_5tb) (wl_wanted_det rfl rfl rfl rfl rfl rfl rfl (op_load1 rfl tO3tb (Ent.lab (l := 1) rfl (says_cel 5))) (wl_wanted_det rfl rfl rfl rfl rfl rfl rfl (op_fieldAddr (off := 4) rfl tF27_4tb) (wl_wanted_det rfl rfl rfl rfl rfl rfl rfl (op_load1 rfl tO3tb (Ent.lab (l := 1) rfl (says_cel 4))) (wl_wanted_det rfl rfl rfl rfl rfl rfl rfl (op_val (v' := .bool false) (by rw [decide_eq_false (by omega)]) (op_gtr rfl rfl)) ?_)))))
  refine zd rfl (op_pick_f rfl rfl) (zm rfl (wl_wanted_det rfl rfl rfl rfl rfl rfl rfl (op_fieldAddr (off := 4) rfl tF27_4tb) (wl_wanted_det rfl rfl rfl rfl rfl rfl rfl (op_load1 rfl tO3tb (Ent.lab (l := 1) rfl (says_cel 4))) (wl_wanted_det rfl rfl rfl rfl rfl rfl rfl (op_val (v' := .bool false) (by rw [decide_eq_false (by omega)]) (op_gtr rfl rfl)) ?_))))
  refine zd rfl (op_pick_f rfl rfl) (za rfl (wl_nil (st_tn (w_cond_f (rfl) ?_))))
  refine w_seq (w_region (zd rfl (op_fieldAddr (off := 6) rfl tF27_6tb) (zd rfl (op_load1 rfl tO3tb (Ent.lab (l := 1) rfl (says_cel 6))) (zd rfl (op_val (v' := .bool false) (by rw [decide_eq_false (by omega)]) (op_lss rfl rfl)) ?_))))
  refine zm rfl (wl_wanted_det rfl rfl rfl rfl rfl rfl rfl (op_fieldAddr (off := 6) rfl tF27_6tb) (wl_wanted_det rfl rfl rfl rfl rfl rfl rfl (op_load1 rfl tO3tb (Ent.lab (l := 1) rfl (says_cel 6))) (wl_wanted_det rfl rfl rfl rfl rfl rfl rfl (op_val (v' := .bool false) (by rw [decide_eq_false (by omega)]) (op_gtr rfl rfl)) ?_)))
  refine zd rfl (op_pick_f rfl rfl) (za rfl (wl_nil (st_tn (w_cond_f (rfl) ?_))))
  refine w_region (zd rfl (op_fieldAddr (off := 7) rfl tF27_7tb) (zd rfl (op_load1 rfl tO3tb (Ent.lab (l := 1) rfl (says_cel 7))) (zd rfl (op_val (v' := .bool false) (by rw [decide_eq_false (by omega)]) (op_lss rfl rfl)) ?_)))
  refine zm rfl (wl_wanted_det rfl rfl rfl rfl rfl rfl rfl (op_fieldAddr (off := 7) rfl tF27_7tb) (wl_wanted_det rfl rfl rfl rfl rfl rfl rfl (op_load1 rfl tO3tb (Ent.lab (l := 1) rfl (says_cel 7))) (wl_wanted_det rfl rfl rfl rfl rfl rfl rfl (op_val (v' := .bool false) (by rw [decide_eq_false (by omega)]) (op_gtr rfl rfl)) ?_)))
  refine zd rfl (op_pick_f rfl rfl) (za rfl (wl_nil (st_tn (w_cond_f (rfl) ?_))))
  refine w_skip (st_bn (st_tn (w_seq (w_region (za rfl (wl_nil (st_tn (w_ret (st_ret (vs := [_]) [] Try.results27 ⟨rfl, trivial⟩ rfl ?_)))))))))
  refine ⟨_, rfl, ?_⟩
  exact ⟨rfl, rfl⟩
set_option maxHeartbeats 400000 in
set_option maxRecDepth 100000 in
theorem scheck_ok {σ : World} {F : List Res} {x : SeV} (hx : SeOk x) (h : Sl σ F SL.encZ 1 (.slice x.a x.vals.length x.c) x.vals) : FnT Try.prog σ F 46 [.agg (encSe x).toArray] [] (fun u ρ => u = .int .i64 0 ∧ ρ = []) := by
  refine fn_of 75 Try.func46 rfl Try.ntmps46 rfl ?_
  have h1 := hx.met
  have h2 := hx.fr
  have h3 := hx.len
  have h4 := hx.qn
  have h5 := hx.qd
  refine w_seq (w_region (wl_op [] rfl rfl rfl rfl (op_box (T := 32) (l := 1) rfl) ?_))
  rintro _ _ ⟨b1, rfl, rfl⟩
  refine za rfl (wl_nil (st_tn (w_seq (w_block (w_seq (w_region (zd rfl (op_fieldAddr (off := 0) rfl tF32_0tb) (zd rfl (op_load1 rfl tO9tb (Ent.lab (l := 1) rfl (says_cel 0))) (zd rfl (op_fn Try.func48 rfl rfl rfl (isName_ok hx.n1)) (zd rfl (op_not_t rfl) (zm rfl (wl_wanted_det rfl rfl rfl rfl rfl rfl rfl (op_fieldAddr (off := 1) rfl tF32_1tb) (wl_wanted_det rfl rfl rfl rfl rfl rfl rfl (op_load1 rfl tO9tb (Ent.lab (l := 1) rfl (says_cel 1))) ?_)))))))))))))
  refine wl_wanted_det rfl rfl rfl rfl rfl rfl rfl (op_val (v' := .bool false) (by rw [decide_eq_false (fun h => h hx.op)]) (op_neStr rfl rfl)) ?_
  refine wl_wanted_det rfl rfl rfl rfl rfl rfl rfl (op_move rfl) (wl_unwanted rfl rfl rfl rfl rfl rfl rfl rfl (wl_unwanted rfl rfl rfl rfl rfl rfl rfl rfl (wl_unwanted rfl rfl rfl rfl rfl rfl rfl rfl (wl_unwanted rfl rfl rfl rfl rfl rfl rfl rfl (wl_wanted_det rfl rfl rfl rfl rfl rfl rfl (op_pick_f rfl rfl) (zd rfl (op_pick_f rfl rfl) (za rfl (wl_nil (st_tn (w_cond_f (rfl) ?_))))))))))
  refine w_seq (w_region (zd rfl (op_fieldAddr (off := 2) rfl tF32_2tb) (zd rfl (op_load1 rfl tO3tb (Ent.lab (l := 1) rfl (says_cel 2))) (zd rfl (op_val (v' := .bool false) (by rw [decide_eq_false (by omega)]) (op_lss rfl rfl)) ?_))))
  refine zm rfl (wl_wanted_det rfl rfl rfl rfl rfl rfl rfl (op_fieldAddr (off := 2) rfl tF32_2tb) (wl_wanted_det rfl rfl rfl rfl rfl rfl rfl (op_load1 rfl tO3tb (Ent.lab (l := 1) rfl (says_cel 2))) (wl_wanted_det rfl rfl rfl rfl rfl rfl rfl (op_val (v' := .bool false) (by rw [decide_eq_false (by omega)]) (op_gtr rfl rfl)) ?_)))
  refine zd rfl (op_pick_f rfl rfl) (za rfl (wl_nil (st_tn (w_cond_f (rfl) ?_))))
  refine w_seq (w_region (zd rfl (op_fieldAddr (off := 2) rfl tF32_2tb) (zd rfl (op_load1 rfl tO3tb (Ent.lab (l := 1) rfl (says_cel 2))) (zd rfl (op_val (v' := .bool false) (by rw [decide_eq_false (by omega)]) (op_eql rfl rfl)) ?_))))
  refine zm rfl (wl_unwanted rfl rfl rfl rfl rfl rfl rfl rfl (wl_unwanted rfl rfl rfl rfl rfl rfl rfl rfl (wl_unwanted rfl rfl rfl rfl rfl rfl rfl rfl (wl_unwanted rfl rfl rfl rfl rfl rfl rfl rfl (zd rfl (op_pick_f rfl rfl) (zm rfl (wl_wanted_det rfl rfl rfl rfl rfl rfl rfl (op_fieldAddr (off := 2) rfl tF32_2tb) (wl_wanted_det rfl rfl rfl rfl rfl rfl rfl (op_load1 rfl tO3tb (Ent.lab (l := 1) rfl (says_cel 2))) (wl_wanted_det rfl rfl rfl rfl rfl rfl rfl (op_val (v' := .bool true) (by rw [decide_eq_true (by omega)]) (op_neq rfl rfl)) ?_)))))))))
  refine wl_wanted_det rfl rfl rfl rfl rfl rfl rfl (op_move rfl) (wl_wanted_det rfl rfl rfl rfl rfl rfl rfl (op_fieldAddr (off := 3) rfl tF32_3tb) (wl_wanted_det rfl rfl rfl rfl rfl rfl rfl (op_loadA rfl tA29tb (Ent.lab (l := 1) rfl (says_cel 3)) (Nat.le_of_ble_eq_true rfl)) (wl_wanted_det rfl rfl rfl rfl rfl rfl rfl (op_build tB29tb rfl rfl) (wl_wanted_det rfl rfl rfl rfl rfl rfl rfl (op_val (v' := .bool false) (by simp [h4, h5]) (op_neA rfl rfl tG29tb (eq29 _ _ _ _))) ?_))))
  refine wl_wanted_det rfl rfl rfl rfl rfl rfl rfl (op_pick_t rfl rfl) (zd rfl (op_pick_f rfl rfl) (za rfl (wl_nil (st_tn (w_cond_f (rfl) ?_)))))
  refine w_seq (w_region (zd rfl (op_fieldAddr (off := 5) rfl tF32_4tb) (zd rfl (op_load1 rfl tO3tb (Ent.lab (l := 1) rfl (says_cel 5))) (zd rfl (op_val (v' := .bool false) (by rw [decide_eq_false (by omega)]) (op_lss rfl rfl)) ?_))))
  refine zm rfl (wl_wanted_det rfl rfl rfl rfl rfl rfl rfl (op_fieldAddr (off := 5) rfl tF32_4tb) (wl_wanted_det rfl rfl rfl rfl rfl rfl rfl (op_load1 rfl tO3tb (Ent.lab (l := 1) rfl (says_cel 5))) (wl_wanted_det rfl rfl rfl rfl rfl rfl rfl (op_val (v' := .bool false) (by rw [decide_eq_false (by omega)]) (op_gtr rfl rfl)) ?_)))
  refine zd rfl (op_pick_f rfl rfl) (za rfl (wl_nil (st_tn (w_cond_f (rfl) ?_))))
  refine w_seq (w_region (zd rfl (op_fieldAddr (off := 6) rfl tF32_5tb) (zd rfl (op_load1 rfl tO30tb (Ent.lab (l := 1) rfl (says_cel 6))) (zd rfl (op_lenT rfl tS30tb (Sl.ent (by first | exact Sl.app (by assumption) _ | exact Sl.app (Sl.app (by assumption) _) _))) ?_))))
  refine zd rfl (op_val (v' := .bool false) (by rw [decide_eq_false (by omega)]) (op_gtr rfl rfl)) ?_
  refine za rfl (wl_nil (st_tn (w_cond_f (rfl) ?_)))
  refine w_seq (w_region (zd rfl (op_fieldAddr (off := 5) rfl tF32_4tb) (zd rfl (op_load1 rfl tO3tb (Ent.lab (l := 1) rfl (says_cel 5))) (zd rfl (op_fieldAddr (off := 6) rfl tF32_5tb) (zd rfl (op_load1 rfl tO30tb (Ent.lab (l := 1) rfl (says_cel 6))) (zd rfl (op_lenT rfl tS30tb (Sl.ent (by first | exact Sl.app (by assumption) _ | exact Sl.app (Sl.app (by assumption) _) _))) ?_))))))
  refine zd rfl (op_add' rfl rfl (by omega)) ?_
  refine zd rfl (op_val (v' := .bool false) (by rw [decide_eq_false (by omega)]) (op_gtr rfl rfl)) ?_
  refine za rfl (wl_nil (st_tn (w_cond_f (rfl) ?_)))
  refine w_seq (w_region (zd rfl (op_fieldAddr (off := 6) rfl tF32_5tb) (zd rfl (op_load1 rfl tO30tb (Ent.lab (l := 1) rfl (says_cel 6))) (zd rfl (op_fn Try.func62 rfl rfl rfl (containsFuncI (fs := []) (cs := []) (p := fun x => decide (x < 0 ∨ x > 1099511627776)) (Sl.app h _) Try.func63 rfl rfl (fun X r => badv_any r))) (zd rfl (op_val (v' := .bool false) (by rw [show x.vals.any (fun x => decide (x < 0 ∨ x > 1099511627776)) = false from List.any_eq_false.2 fun v hv => by have := hx.vals v hv; simp; omega]) (op_assign rfl)) ?_)))))
  refine wl_nil (st_tn (w_cond_f (rfl) ?_))
  refine w_skip (st_bn (st_tn (w_seq (w_region (za rfl (wl_nil (st_tn (w_ret (st_ret (vs := [_]) [] Try.results46 ⟨rfl, trivial⟩ rfl ?_)))))))))
  refine ⟨_, rfl, ?_⟩
  exact ⟨rfl, rfl⟩
end Go.Proofs.Ytecmigildpkigaa
namespace Go.Proofs.Ytecmigildpkigaa
open Go Go.SL Go.RowKit
set_option linter.unusedVariables false
set_option linter.unusedSimpArgs false
theorem tA27tc : aggB Try.prog 27 8 = true := by kernel_rfl
theorem tA32tc : aggB Try.prog 32 7 = true := by kernel_rfl
theorem tF27_1tc : fieldB Try.prog 27 1 1 = true := by kernel_rfl
theorem tF27_2tc : fieldB Try.prog 27 2 2 = true := by kernel_rfl
theorem tF32_0tc : fieldB Try.prog 32 0 0 = true := by kernel_rfl
theorem tF32_1tc : fieldB Try.prog 32 1 1 = true := by kernel_rfl
theorem tF32_2tc : fieldB Try.prog 32 2 2 = true := by kernel_rfl
theorem tF32_4tc : fieldB Try.prog 32 4 5 = true := by kernel_rfl
theorem tF32_5tc : fieldB Try.prog 32 5 6 = true := by kernel_rfl
theorem tL115_2tc : zerosB Try.prog 115 32 7 2 = some [Value.string .empty, Value.string .empty, Value.int .i64 0, Value.int .i64 0, Value.int .i64 0, Value.int .i64 0, Value.slice none 0 0, Value.string .empty, Value.string .empty, Value.int .i64 0, Value.int .i64 0, Value.int .i64 0, Value.int .i64 0, Value.slice none 0 0] := by kernel_rfl
theorem tN32tc : (Try.prog.info? 32).bind (·.zero) = some (Value.agg #[Value.string .empty, Value.string .empty, Value.int .i64 0, Value.int .i64 0, Value.int .i64 0, Value.int .i64 0, Value.slice none 0 0]) := by kernel_rfl
theorem tO3tc : oneB Try.prog 3 = true := by kernel_rfl
theorem tO30tc : oneB Try.prog 30 = true := by kernel_rfl
theorem tO9tc : oneB Try.prog 9 = true := by kernel_rfl
theorem tS115tc : sliceB Try.prog 115 32 7 = true := by kernel_rfl
theorem tS30tc : sliceB Try.prog 30 3 1 = true := by kernel_rfl
theorem tZ32tc : (Try.prog.info? 32).map (·.size) = some 7 := by kernel_rfl
structure CinOk (r : RuV) (x y : SeV) : Prop where
  ro : RuOk r
  xo : SeOk x
  yo : SeOk y
  m1 : x.met = 2
  m2 : y.met = 1
  s1 : x.svc = r.svc
  s2 : y.svc = r.svc
  ef : x.fr = y.fr
  el : x.vals.length = y.vals.length
  le : ∀ (i : Nat) (e t : Int), x.vals[i]? = some e → y.vals[i]? = some t → e ≤ t
theorem two_of {α : Type} {x y z : α} {i : Nat} (h : [x, y][i]? = some z) : z = x ∨ z = y := by
  have := List.mem_of_getElem? h
  simpa using this
set_option maxHeartbeats 1000000 in
set_option maxRecDepth 100000 in
theorem cin_ok {σ : World} {F : List Res} {r : RuV} {x y : SeV} (hc : CinOk r x y) (gx : Sl σ F SL.encZ 1 (.slice x.a x.vals.length x.c) x.vals) (gy : Sl σ F SL.encZ 1 (.slice y.a y.vals.length y.c) y.vals) : FnT Try.prog σ F 24 [.agg (encRu r).toArray, .agg (encSe x).toArray, .agg (encSe y).toArray] [] (fun u ρ => u = .int .i64 0 ∧ ρ = []) := by
  refine fn_of 111 Try.func24 rfl Try.ntmps24 rfl ?_
  have h1 := hc.m1
  have h2 := hc.m2
  have hl := hc.el
  have hxl := hc.xo.len
  have hl2 : ([x, y] : List SeV).length = 2 := rfl
  refine w_seq (w_region (wl_op [] rfl rfl rfl rfl (op_box (T := 27) (l := 3) rfl) ?_))
  rintro _ _ ⟨b3, rfl, rfl⟩
  refine wl_op [] rfl rfl rfl rfl (op_box (T := 32) (l := 4) rfl) ?_
  rintro _ _ ⟨b4, rfl, rfl⟩
  refine wl_op [] rfl rfl rfl rfl (op_box (T := 32) (l := 5) rfl) ?_
  rintro _ _ ⟨b5, rfl, rfl⟩
  refine za rfl (wl_nil (st_tn (w_seq (w_seq (w_region (zd rfl (op_loadA rfl tA27tc (Ent.lab (l := 3) rfl (says_cel 0)) (Nat.le_of_ble_eq_true rfl)) (zd rfl (op_fn Try.func27 rfl rfl rfl (acheck_ok hc.ro)) (za rfl (wl_nil (st_tn (w_seq (w_region (zm rfl ?_)))))))))))))
  refine zd rfl (op_val (v' := .bool false) (by rfl) (op_neq rfl rfl)) ?_
  refine wl_nil (st_tn (w_cond_f (rfl) ?_))
  refine w_skip (st_tn (w_seq (w_seq (w_region (zd rfl (op_loadA rfl tA32tc (Ent.lab (l := 4) rfl (says_cel 0)) (Nat.le_of_ble_eq_true rfl)) (zd rfl (op_loadA rfl tA32tc (Ent.lab (l := 5) rfl (says_cel 0)) (Nat.le_of_ble_eq_true rfl)) (wl_op [] rfl rfl rfl rfl (op_buildSlice (enc := encSe) (l := [x, y]) (lab := 25) tL115_2tc rfl rfl (fun _ => rfl) rfl) ?_)))))))
  rintro _ _ ⟨a25, c25, rfl, rfl⟩
  refine zd rfl (op_lenT rfl tS115tc (Sl.ent (Sl.lab 25 rfl (by first | (simp [maxLen]; done) | (unfold maxLen; omega))))) ?_
  refine zm rfl (wl_nil (st_tn (w_block ?_)))
  refine w_loopQ (X := Nat) (fun z => z ≤ 2) (fun z => [(27, .int .i64 (z))]) (fun _ => []) (fun z => 2 - z) (0) [(3, _), (4, _), (5, _), (25, _), (26, _)] [(3, _), (4, _), (5, _), (25, _)] [3, 4, 5, 25] rfl (rfl) (.cons rfl (.nil _)) (.cons rfl (.cons rfl (.cons rfl (.cons rfl (.cons rfl (.nil _)))))) (by
      try dsimp only
      exact Nat.zero_le _) ?_
  rintro i hi
  refine w_norm2 (by dsimp only [List.cons_append, List.nil_append]) (by dsimp only [List.cons_append, List.nil_append]) ?_
  try dsimp only at hi ⊢
  refine w_seq (w_region (zd rfl (op_lss rfl rfl) (wl_nil (st_tn (w_seq (w_cond_d rfl (fun hc28 => ?_) (fun hc28 => ?_)))))))
  · -- c28.t
    obtain ⟨z, hz⟩ := getE (l := [x, y]) (i := i) (by omega)
    have hzo : SeOk z := by rcases two_of hz with rfl | rfl; (· exact hc.xo); (· exact hc.yo)
    have hzs : Sl σ F SL.encZ 1 (.slice z.a z.vals.length z.c) z.vals := by rcases two_of hz with rfl | rfl; (· exact gx); (· exact gy)
    refine w_skip (st_tn (w_seq (w_block (w_seq (w_region (zd rfl (op_idx rfl rfl tS115tc (Sl.ent (Sl.lab 25 rfl (by simp [maxLen]))) (by omega)) ?_))))))
    refine zd rfl (op_ldxA rfl tA32tc (Sl.lab 25 rfl (by simp [maxLen])) (by assumption) (by rfl) (by rfl)) ?_
    refine wl_op [] rfl rfl rfl rfl (op_alloc (l := 9) tN32tc) ?_
    rintro _ _ ⟨b9, rfl, rfl⟩
    refine wl_op0 [9] rfl rfl rfl (op_store rfl rfl tZ32tc (by rfl) (by rfl) (by exact Nat.le_of_ble_eq_true rfl)) ?_
    rintro _ _ ⟨rfl, rfl⟩
    refine wl_nil (st_tn (w_seq (w_region (zd rfl (op_loadA rfl tA32tc (Ent.lab (l := 9) rfl (says_cel 0)) (Nat.le_of_ble_eq_true rfl)) (zd rfl (op_fn Try.func46 rfl rfl rfl (scheck_ok hzo (hzs.app _))) (za rfl (wl_nil (st_tn (w_seq (w_region (zm rfl (zd rfl (op_val (v' := .bool false) (by rfl) (op_neq rfl rfl)) ?_))))))))))))
    refine wl_nil (st_tn (w_cond_f (rfl) ?_))
    refine w_skip (st_bn (st_tn (w_region (zd rfl (op_add' rfl rfl (by omega)) ?_))))
    refine zm rfl (wl_nil ?_)
    refine st_roundQ (x := i) (i + 1) [3, 4, 5, 25] rfl (rfl) (.cons rfl (.nil _)) (.cons rfl (.cons rfl (.cons rfl (.cons rfl (.cons rfl (.nil _)))))) (by
        try dsimp only
        omega) (by
        try dsimp only
        omega)
  · -- c28.f
    refine w_exit (st_te ?_)
    refine st_te ?_
    refine st_be (st_tn (w_seq (w_seq (w_region (zd rfl (op_fieldAddr (off := 2) rfl tF32_2tc) (zd rfl (op_load1 rfl tO3tc (Ent.lab (l := 4) rfl (says_cel 2))) (zd rfl (op_val (v' := .bool false) (by rw [decide_eq_false (by omega)]) (op_neq rfl rfl)) ?_)))))))
    refine zm rfl (wl_wanted_det rfl rfl rfl rfl rfl rfl rfl (op_fieldAddr (off := 2) rfl tF32_2tc) (wl_wanted_det rfl rfl rfl rfl rfl rfl rfl (op_load1 rfl tO3tc (Ent.lab (l := 5) rfl (says_cel 2))) (wl_wanted_det rfl rfl rfl rfl rfl rfl rfl (op_val (v' := .bool false) (by rw [decide_eq_false (by omega)]) (op_neq rfl rfl)) ?_)))
    refine zd rfl (op_pick_f rfl rfl) (wl_nil (st_tn (w_cond_f (rfl) ?_)))
    refine w_skip (st_tn (w_seq (w_seq (w_region (zd rfl (op_loadA rfl tA32tc (Ent.lab (l := 4) rfl (says_cel 0)) (Nat.le_of_ble_eq_true rfl)) (zd rfl (op_loadA rfl tA32tc (Ent.lab (l := 5) rfl (says_cel 0)) (Nat.le_of_ble_eq_true rfl)) (wl_op [] rfl rfl rfl rfl (op_buildSlice (enc := encSe) (l := [x, y]) (lab := 47) tL115_2tc rfl rfl (fun _ => rfl) rfl) ?_)))))))
    rintro _ _ ⟨a47, c47, rfl, rfl⟩
    refine zd rfl (op_lenT rfl tS115tc (Sl.ent (Sl.lab 47 rfl (by first | (simp [maxLen]; done) | (unfold maxLen; omega))))) ?_
    refine zm rfl (wl_nil (st_tn (w_block ?_)))
    refine w_loopQ (X := Nat) (fun z => z ≤ 2) (fun z => [(49, .int .i64 (z))]) (fun _ => []) (fun z => 2 - z) (0) [(3, _), (4, _), (5, _), (47, _), (48, _)] [(3, _), (4, _), (5, _), (47, _)] [3, 4, 5, 47] rfl (rfl) (.cons rfl (.nil _)) (.cons rfl (.cons rfl (.cons rfl (.cons rfl (.cons rfl (.nil _)))))) (by
        try dsimp only
        exact Nat.zero_le _) ?_
    rintro i hi
    refine w_norm2 (by dsimp only [List.cons_append, List.nil_append]) (by dsimp only [List.cons_append, List.nil_append]) ?_
    try dsimp only at hi ⊢
    refine w_seq (w_region (zd rfl (op_lss rfl rfl) (wl_nil (st_tn (w_seq (w_cond_d rfl (fun hc50 => ?_) (fun hc50 => ?_)))))))
    · -- c50.t
      obtain ⟨z, hz⟩ := getE (l := [x, y]) (i := i) (by omega)
      have hzs : Sl σ F SL.encZ 1 (.slice z.a z.vals.length z.c) z.vals := by rcases two_of hz with rfl | rfl; (· exact gx); (· exact gy)
      have e1 : z.svc = r.svc := by rcases two_of hz with rfl | rfl; (· exact hc.s1); (· exact hc.s2)
      have e2 : z.op = r.op := by rcases two_of hz with rfl | rfl; (· exact hc.xo.op.trans hc.ro.op.symm); (· exact hc.yo.op.trans hc.ro.op.symm)
      have e3 : z.fr = x.fr := by rcases two_of hz with rfl | rfl; (· rfl); (· exact hc.ef.symm)
      have e4 : z.vals.length = x.vals.length := by rcases two_of hz with rfl | rfl; (· rfl); (· exact hc.el.symm)
      refine w_skip (st_tn (w_seq (w_block (w_seq (w_region (zd rfl (op_idx rfl rfl tS115tc (Sl.ent (Sl.lab 47 rfl (by simp [maxLen]))) (by omega)) ?_))))))
      refine zd rfl (op_ldxA rfl tA32tc (Sl.lab 47 rfl (by simp [maxLen])) (by assumption) (by rfl) (by rfl)) ?_
      refine wl_op [] rfl rfl rfl rfl (op_alloc (l := 12) tN32tc) ?_
      rintro _ _ ⟨b12, rfl, rfl⟩
      refine wl_op0 [12] rfl rfl rfl (op_store rfl rfl tZ32tc (by rfl) (by rfl) (by exact Nat.le_of_ble_eq_true rfl)) ?_
      rintro _ _ ⟨rfl, rfl⟩
      refine wl_nil (st_tn (w_seq (w_region (zd rfl (op_fieldAddr (off := 0) rfl tF32_0tc) (zd rfl (op_load1 rfl tO9tc (Ent.lab (l := 12) rfl (says_cel 0))) (zd rfl (op_fieldAddr (off := 1) rfl tF27_1tc) (zd rfl (op_load1 rfl tO9tc (Ent.lab (l := 3) rfl (says_cel 1))) (zd rfl (op_val (v' := .bool false) (by rw [decide_eq_false (fun h => h e1)]) (op_neStr rfl rfl)) ?_))))))))
      refine zm rfl (wl_wanted_det rfl rfl rfl rfl rfl rfl rfl (op_fieldAddr (off := 1) rfl tF32_1tc) (wl_wanted_det rfl rfl rfl rfl rfl rfl rfl (op_load1 rfl tO9tc (Ent.lab (l := 12) rfl (says_cel 1))) (wl_wanted_det rfl rfl rfl rfl rfl rfl rfl (op_fieldAddr (off := 2) rfl tF27_2tc) (wl_wanted_det rfl rfl rfl rfl rfl rfl rfl (op_load1 rfl tO9tc (Ent.lab (l := 3) rfl (says_cel 2))) (wl_wanted_det rfl rfl rfl rfl rfl rfl rfl (op_val (v' := .bool false) (by rw [decide_eq_false (fun h => h e2)]) (op_neStr rfl rfl)) ?_)))))
      refine zd rfl (op_pick_f rfl rfl) (zm rfl (wl_wanted_det rfl rfl rfl rfl rfl rfl rfl (op_fieldAddr (off := 5) rfl tF32_4tc) (wl_wanted_det rfl rfl rfl rfl rfl rfl rfl (op_load1 rfl tO3tc (Ent.lab (l := 12) rfl (says_cel 5))) (wl_wanted_det rfl rfl rfl rfl rfl rfl rfl (op_fieldAddr (off := 5) rfl tF32_4tc) (wl_wanted_det rfl rfl rfl rfl rfl rfl rfl (op_load1 rfl tO3tc (Ent.lab (l := 4) rfl (says_cel 5))) (wl_wanted_det rfl rfl rfl rfl rfl rfl rfl (op_val (v' := .bool false) (by rw [decide_eq_false (fun h => h e3)]) (op_neq rfl rfl)) ?_))))))
      refine zd rfl (op_pick_f rfl rfl) (zm rfl (wl_wanted_det rfl rfl rfl rfl rfl rfl rfl (op_fieldAddr (off := 6) rfl tF32_5tc) (wl_wanted_det rfl rfl rfl rfl rfl rfl rfl (op_load1 rfl tO30tc (Ent.lab (l := 12) rfl (says_cel 6))) (wl_wanted_det rfl rfl rfl rfl rfl rfl rfl (op_lenT rfl tS30tc (Sl.ent (hzs.app _))) (wl_wanted_det rfl rfl rfl rfl rfl rfl rfl (op_fieldAddr (off := 6) rfl tF32_5tc) (wl_wanted_det rfl rfl rfl rfl rfl rfl rfl (op_load1 rfl tO30tc (Ent.lab (l := 4) rfl (says_cel 6))) (wl_wanted_det rfl rfl rfl rfl rfl rfl rfl (op_lenT rfl tS30tc (Sl.ent (gx.app _))) (wl_wanted_det rfl rfl rfl rfl rfl rfl rfl (op_val (v' := .bool false) (by rw [decide_eq_false (by omega)]) (op_neq rfl rfl)) ?_))))))))
      refine zd rfl (op_pick_f rfl rfl) (wl_nil (st_tn (w_cond_f (rfl) ?_)))
      refine w_skip (st_bn (st_tn (w_region (zd rfl (op_add' rfl rfl (by omega)) ?_))))
      refine zm rfl (wl_nil ?_)
      refine st_roundQ (x := i) (i + 1) [3, 4, 5, 47] rfl (rfl) (.cons rfl (.nil _)) (.cons rfl (.cons rfl (.cons rfl (.cons rfl (.cons rfl (.nil _)))))) (by
          try dsimp only
          omega) (by
          try dsimp only
          omega)
    · -- c50.f
      refine w_exit (st_te ?_)
      refine st_te ?_
      refine st_be (st_tn (w_seq (w_region (za rfl (wl_nil (st_tn (w_seq (w_seq (w_region (zd rfl (op_fieldAddr (off := 6) rfl tF32_5tc) (zd rfl (op_load1 rfl tO30tc (Ent.lab (l := 4) rfl (says_cel 6))) (zd rfl (op_lenT rfl tS30tc (Sl.ent (gx.app _))) (zm rfl ?_)))))))))))))
      refine wl_nil (st_tn (w_block ?_))
      refine w_loopQ (X := Nat) (fun z => z ≤ x.vals.length) (fun z => [(85, .int .i64 (z))]) (fun _ => []) (fun z => x.vals.length - z) (0) [(5, _), (13, _), (83, _), (84, _)] [(3, _), (4, _), (5, _)] [3, 4, 5] rfl (rfl) (.cons rfl (.nil _)) (.cons rfl (.cons rfl (.cons rfl (.cons rfl (.nil _))))) (by
          try dsimp only
          exact Nat.zero_le _) ?_
      rintro i hi
      refine w_norm2 (by dsimp only [List.cons_append, List.nil_append]) (by dsimp only [List.cons_append, List.nil_append]) ?_
      try dsimp only at hi ⊢
      refine w_seq (w_region (zd rfl (op_lss rfl rfl) (wl_nil (st_tn (w_seq (w_cond_d rfl (fun hc86 => ?_) (fun hc86 => ?_)))))))
      · -- c86.t
        obtain ⟨e, he⟩ := getE (l := x.vals) (i := i) (by omega)
        obtain ⟨t, ht⟩ := getE (l := y.vals) (i := i) (by omega)
        have het := hc.le i e t he ht
        refine w_skip (st_tn (w_seq (w_block (w_seq (w_region (zm rfl (zd rfl (op_idx rfl rfl tS30tc (Sl.ent (gx.app _)) (by omega)) ?_)))))))
        refine zd rfl (op_ldx rfl tO3tc (gx.app _) (by assumption) (by rfl)) ?_
        refine za rfl (za rfl (wl_nil (st_tn (w_seq (w_region (zm rfl (zd rfl (op_fieldAddr (off := 6) rfl tF32_5tc) (zd rfl (op_load1 rfl tO30tc (Ent.lab (l := 5) rfl (says_cel 6))) (zm rfl (zd rfl (op_idx rfl rfl tS30tc (Sl.ent (gy.app _)) (by omega)) ?_))))))))))
        refine zd rfl (op_ldx rfl tO3tc (gy.app _) (by assumption) (by rfl)) ?_
        refine zd rfl (op_val (v' := .bool false) (by rw [decide_eq_false (by omega)]) (op_gtr rfl rfl)) ?_
        refine wl_nil (st_tn (w_cond_f (rfl) ?_))
        refine w_skip (st_bn (st_tn (w_region (zd rfl (op_add' rfl rfl (by omega)) ?_))))
        refine zm rfl (wl_nil ?_)
        refine st_roundQ (x := i) (i + 1) [3, 4, 5] rfl (rfl) (.cons rfl (.nil _)) (.cons rfl (.cons rfl (.cons rfl (.cons rfl (.nil _))))) (by
            try dsimp only
            omega) (by
            try dsimp only
            omega)
      · -- c86.f
        refine w_exit (st_te ?_)
        refine st_te ?_
        refine st_be (st_tn (w_seq (w_seq (w_region (zd rfl (op_fieldAddr (off := 6) rfl tF32_5tc) (zd rfl (op_load1 rfl tO30tc (Ent.lab (l := 5) rfl (says_cel 6))) (zd rfl (op_lenT rfl tS30tc (Sl.ent (gy.app _))) (zm rfl (wl_nil (st_tn (w_block ?_)))))))))))
        refine w_loopQ (X := Int × Nat) (fun z => z.2 ≤ y.vals.length ∧ 0 ≤ z.1 ∧ z.1 ≤ 1000 * z.2) (fun z => [(13, .int .i64 (z.1)), (101, .int .i64 (z.2))]) (fun _ => []) (fun z => y.vals.length - z.2) ((0, 0)) [(99, _), (100, _)] [(3, _), (4, _), (5, _)] [3, 4, 5] rfl (rfl) (.cons rfl (.cons rfl (.nil _))) (.cons rfl (.cons rfl (.nil _))) (by
            try dsimp only
            exact ⟨Nat.zero_le _, Int.le_refl _, by omega⟩) ?_
        rintro ⟨sm, i⟩ ⟨hi, hs1, hs2⟩
        refine w_norm2 (by dsimp only [List.cons_append, List.nil_append]) (by dsimp only [List.cons_append, List.nil_append]) ?_
        try dsimp only at hi hs1 hs2 ⊢
        refine w_seq (w_region (zd rfl (op_lss rfl rfl) (wl_nil (st_tn (w_seq (w_cond_d rfl (fun hc102 => ?_) (fun hc102 => ?_)))))))
        · -- c102.t
          obtain ⟨t, ht⟩ := getE (l := y.vals) (i := i) (by omega)
          have htb := hc.yo.vals t (List.mem_of_getElem? ht)
          refine w_skip (st_tn (w_seq (w_block (w_seq (w_region (zd rfl (op_idx rfl rfl tS30tc (Sl.ent (gy.app _)) (by omega)) ?_))))))
          refine zd rfl (op_ldx rfl tO3tc (gy.app _) (by assumption) (by rfl)) ?_
          refine za rfl (wl_nil (st_tn (w_seq (w_region (zm rfl (zm rfl (zd rfl (op_add' rfl rfl (by omega)) ?_)))))))
          refine za rfl (wl_nil (st_tn (w_seq (w_region (zm rfl (zd rfl (op_val (v' := .bool false) (by rw [decide_eq_false (by omega)]) (op_gtr rfl rfl)) ?_))))))
          refine wl_nil (st_tn (w_cond_f (rfl) ?_))
          refine w_skip (st_bn (st_tn (w_region (zd rfl (op_add' rfl rfl (by omega)) ?_))))
          refine zm rfl (wl_nil ?_)
          refine st_roundQ (x := (sm, i)) ((sm + t, i + 1)) [3, 4, 5] rfl (rfl) (.cons rfl (.cons rfl (.nil _))) (.cons rfl (.cons rfl (.nil _))) (by
              try dsimp only
              exact ⟨by omega, by omega, by omega⟩) (by
              try dsimp only
              omega)
        · -- c102.f
          refine w_exit (st_te ?_)
          refine st_te ?_
          refine st_be (st_tn (w_seq (w_region (za rfl (wl_nil (st_tn (w_ret (st_ret (vs := [_]) [] Try.results24 ⟨rfl, trivial⟩ rfl ?_))))))))
          refine ⟨_, rfl, ?_⟩
          exact ⟨rfl, rfl⟩
end Go.Proofs.Ytecmigildpkigaa
namespace Go.Proofs.Ytecmigildpkigaa
open Go Go.SL Go.RowKit
set_option linter.unusedVariables false
set_option linter.unusedSimpArgs false
def encSm (p : Int × Int) : List Value := [.string .empty, .string .empty, .int .i64 p.1, .int .i64 p.2]
abbrev RingV := List (Int × Int)
def flatR (ring : RingV) : List Value := (ring.map encSm).flatten
def encG (r : RuV) (ring : RingV) (n h t : Int) (tl : List Value) : List Value := encRu r ++ (flatR ring ++ (.int .i64 n :: .int .i64 h :: .int .i64 t :: tl))
theorem flatR_len : ∀ ring : RingV, (flatR ring).length = 4 * ring.length
  | [] => rfl
  | p :: ring => by
    have ih := flatR_len ring
    unfold flatR at ih ⊢
    rw [List.map_cons, List.flatten_cons, List.length_append, ih, List.length_cons]
    show 4 + _ = _; omega
theorem flatR_app (a b : RingV) : flatR (a ++ b) = flatR a ++ flatR b := by unfold flatR; rw [List.map_append, List.flatten_append]
theorem G_len {r : RuV} {ring : RingV} {n h t : Int} {tl : List Value} (hr : ring.length = 256) : (encG r ring n h t tl).length = 1035 + tl.length := by
  unfold encG
  rw [List.length_append, List.length_append, flatR_len, hr]
  show 8 + (4 * 256 + (tl.length + 1 + 1 + 1)) = _; omega
theorem G_tail {r : RuV} {ring : RingV} {n h t : Int} {tl : List Value} (hr : ring.length = 256) : (encG r ring n h t tl).drop 1032 = .int .i64 n :: .int .i64 h :: .int .i64 t :: tl := by
  unfold encG
  rw [← List.append_assoc]
  exact List.drop_left' (by rw [List.length_append, flatR_len, hr]; rfl)
theorem ring_split {ring : RingV} {i : Nat} {q : Int × Int} (hq : ring[i]? = some q) : ring = ring.take i ++ (q :: ring.drop (i + 1)) := by
  obtain ⟨h1, h2⟩ := List.getElem?_eq_some_iff.1 hq
  rw [← h2, ← List.drop_eq_getElem_cons h1, List.take_append_drop]
theorem G_ring {r : RuV} {ring : RingV} {n h t : Int} {tl : List Value} {i : Nat} {q : Int × Int} (hq : ring[i]? = some q) : ∃ rest, (encG r ring n h t tl).drop (8 + i * 4) = encSm q ++ rest := by
  have h1 := (List.getElem?_eq_some_iff.1 hq).1
  refine ⟨flatR (ring.drop (i + 1)) ++ (.int .i64 n :: .int .i64 h :: .int .i64 t :: tl), ?_⟩
  have e : encG r ring n h t tl = (encRu r ++ flatR (ring.take i)) ++ (encSm q ++ (flatR (ring.drop (i + 1)) ++ (.int .i64 n :: .int .i64 h :: .int .i64 t :: tl))) := by
    unfold encG
    conv => lhs; rw [ring_split hq, flatR_app]
    show encRu r ++ (flatR (ring.take i) ++ (encSm q ++ flatR (ring.drop (i + 1))) ++ _) = _
    simp only [List.append_assoc]
  rw [e]
  exact List.drop_left' (by rw [List.length_append, flatR_len, List.length_take, Nat.min_eq_left (by omega)]; show 8 + _ = _; omega)
theorem setsL_mid : ∀ (vs A B C : List Value), B.length = vs.length → setsL (A ++ (B ++ C)) A.length vs = A ++ (vs ++ C)
  | [], A, B, C, h => by
    have : B = [] := List.eq_nil_of_length_eq_zero h
    subst this; rfl
  | v :: vs, A, b :: B, C, h => by
    unfold setsL
    have e : (A ++ (b :: B ++ C)).set A.length v = (A ++ [v]) ++ (B ++ C) := by
      rw [List.set_append, if_neg (Nat.lt_irrefl _), Nat.sub_self]; simp
    rw [e]
    have ih := setsL_mid vs (A ++ [v]) B C (by simpa using h)
    rw [List.length_append, List.length_singleton] at ih
    rw [ih]; simp
  | v :: vs, A, [], C, h => by simp at h
theorem setsL_len : ∀ (vs c : List Value) (o : Nat), (setsL c o vs).length = c.length
  | [], c, o => rfl
  | v :: vs, c, o => by unfold setsL; rw [setsL_len, List.length_set]
theorem G_setR {r : RuV} {ring : RingV} {n h t : Int} {tl : List Value} {i : Nat} (p : Int × Int) (hi : i < ring.length) : setsL (encG r ring n h t tl) (8 + i * 4) (encSm p) = encG r (ring.set i p) n h t tl := by
  have hq : ring[i]? = some ring[i] := List.getElem?_eq_getElem hi
  have e1 : encG r ring n h t tl = (encRu r ++ flatR (ring.take i)) ++ (encSm ring[i] ++ (flatR (ring.drop (i + 1)) ++ (.int .i64 n :: .int .i64 h :: .int .i64 t :: tl))) := by
    unfold encG
    conv => lhs; rw [ring_split hq, flatR_app]
    show encRu r ++ (flatR (ring.take i) ++ (encSm ring[i] ++ flatR (ring.drop (i + 1))) ++ _) = _
    simp only [List.append_assoc]
  have e2 : encG r (ring.set i p) n h t tl = (encRu r ++ flatR (ring.take i)) ++ (encSm p ++ (flatR (ring.drop (i + 1)) ++ (.int .i64 n :: .int .i64 h :: .int .i64 t :: tl))) := by
    unfold encG
    rw [List.set_eq_take_append_cons_drop, if_pos hi, flatR_app]
    show encRu r ++ (flatR (ring.take i) ++ (encSm p ++ flatR (ring.drop (i + 1))) ++ _) = _
    simp only [List.append_assoc]
  rw [e1, e2]
  have hl : 8 + i * 4 = (encRu r ++ flatR (ring.take i)).length := by rw [List.length_append, flatR_len, List.length_take, Nat.min_eq_left (by omega)]; show _ = 8 + _; omega
  rw [hl]
  exact setsL_mid _ _ _ _ rfl
theorem G_set3 {r : RuV} {ring : RingV} {n h t : Int} {tl : List Value} (hr : ring.length = 256) (z : Int) :
    setsL (encG r ring n h t tl) 1032 [.int .i64 z] = encG r ring z h t tl ∧ setsL (encG r ring n h t tl) 1033 [.int .i64 z] = encG r ring n z t tl ∧ setsL (encG r ring n h t tl) 1034 [.int .i64 z] = encG r ring n h z tl := by
  have hl : (encRu r ++ flatR ring).length = 1032 := by rw [List.length_append, flatR_len, hr]; rfl
  refine ⟨?_, ?_, ?_⟩
  · have := setsL_mid [.int .i64 z] (encRu r ++ flatR ring) [.int .i64 n] (.int .i64 h :: .int .i64 t :: tl) rfl
    rw [hl] at this
    unfold encG
    rw [← List.append_assoc, ← List.append_assoc]; exact this
  · have := setsL_mid [.int .i64 z] (encRu r ++ flatR ring ++ [.int .i64 n]) [.int .i64 h] (.int .i64 t :: tl) rfl
    rw [List.length_append, hl] at this
    unfold encG
    rw [← List.append_assoc, ← List.append_assoc]
    simpa using this
  · have := setsL_mid [.int .i64 z] (encRu r ++ flatR ring ++ [.int .i64 n, .int .i64 h]) [.int .i64 t] tl rfl
    rw [List.length_append, hl] at this
    unfold encG
    rw [← List.append_assoc, ← List.append_assoc]
    simpa using this
end Go.Proofs.Ytecmigildpkigaa
namespace Go.Proofs.Ytecmigildpkigaa
open Go Go.SL Go.RowKit
set_option linter.unusedVariables false
set_option linter.unusedSimpArgs false
theorem tF27_3te : fieldB Try.prog 27 3 3 = true := by kernel_rfl
theorem tF46_2te : fieldB Try.prog 46 2 2 = true := by kernel_rfl
theorem tF46_3te : fieldB Try.prog 46 3 3 = true := by kernel_rfl
theorem tF77_0te : fieldB Try.prog 77 0 0 = true := by kernel_rfl
theorem tF77_1te : fieldB Try.prog 77 1 8 = true := by kernel_rfl
theorem tF77_2te : fieldB Try.prog 77 2 1032 = true := by kernel_rfl
theorem tMixte : Try.prog.follows .mixedOrders = true := by kernel_rfl
theorem tN46te : (Try.prog.info? 46).bind (·.zero) = some (Value.agg #[Value.string .empty, Value.string .empty, Value.int .i64 0, Value.int .i64 0]) := by kernel_rfl
theorem tO3te : oneB Try.prog 3 = true := by kernel_rfl
theorem tZ3te : (Try.prog.info? 3).map (·.size) = some 1 := by kernel_rfl
theorem tZ46te : (Try.prog.info? 46).map (·.size) = some 4 := by kernel_rfl
theorem tO3x : oneB Try.prog 3 = true := by kernel_rfl
theorem tR75x : arrB Try.prog 75 256 4 = true := by kernel_rfl
theorem tA46x : aggB Try.prog 46 4 = true := by kernel_rfl
def sumK (H : RingV) (f : Int × Int → Int) : Nat → Int
  | 0 => 0
  | k + 1 => sumK H f k + f (H.getD (H.length - 1 - k) (0, 0))
theorem sumK_bd {H : RingV} {f : Int × Int → Int} (hb : ∀ p ∈ H, 0 ≤ f p ∧ f p ≤ 1000) : ∀ k, k ≤ H.length → 0 ≤ sumK H f k ∧ sumK H f k ≤ 1000 * k
  | 0, _ => by simp [sumK]
  | k + 1, hk => by
    have ih := sumK_bd hb k (by omega)
    have h1 : H.getD (H.length - 1 - k) (0, 0) ∈ H := by
      rw [List.getD_eq_getElem?_getD, List.getElem?_eq_getElem (by omega)]
      exact List.getElem_mem _
    have h2 := hb _ h1
    unfold sumK; omega
def rateH (g : Int) (H : RingV) (w : Int) : Int := burnZ (sumK H (·.1) (min w H.length).toNat) (sumK H (·.2) (min w H.length).toNat) g
theorem seen_ent {σ : World} {F : List Res} {b : Nat} {r : RuV} {ring : RingV} {n h t : Int} {tl : List Value} (hm : Ent σ F (At ⟨b, 0, none⟩ (encG r ring n h t tl))) (hr : ring.length = 256) : Ent σ F (At ((⟨b, 0, none⟩ : Addr).add 1032) (.int .i64 n :: .int .i64 h :: .int .i64 t :: tl)) := by
  have := hm.fld 1032
  rwa [G_tail hr] at this
theorem ring_ent {σ : World} {F : List Res} {b i : Nat} {r : RuV} {ring : RingV} {n h t : Int} {tl rest : List Value} {q : Int × Int} (hm : Ent σ F (At ⟨b, 0, none⟩ (encG r ring n h t tl))) (hq : (encG r ring n h t tl).drop (8 + i * 4) = encSm q ++ rest) : Ent σ F (At (((⟨b, 0, none⟩ : Addr).add 8).add (i * 4)) (encSm q ++ rest)) := by
  have := (hm.fld 8).fld (i * 4)
  rwa [List.drop_drop, hq] at this
set_option maxHeartbeats 1000000 in
set_option maxRecDepth 100000 in
theorem rate_any {σ : World} {F : List Res} {b : Nat} {r : RuV} {ring H : RingV} {h t : Int} {tl : List Value} (w : Int) (hw : 0 ≤ w ∧ w ≤ 1000) (hm : Ent σ F (At ⟨b, 0, none⟩ (encG r ring H.length h t tl))) (hr : ring.length = 256) (hh : ∀ j, j < H.length → ring[j]? = H[j]?) (hl : H.length ≤ 200) (hb : ∀ p ∈ H, (0 ≤ p.1 ∧ p.1 ≤ 1000) ∧ 0 ≤ p.2 ∧ p.2 ≤ 1000) (hg : 0 ≤ r.tgt ∧ r.tgt < 1000000) :
    FnT Try.prog σ F 47 [.pointer (some ⟨b, 0, none⟩), .int .i64 w] [] (fun u ρ => u = .int .i64 (rateH r.tgt H w) ∧ ρ = []) := by
  refine fn_of 53 Try.func47 rfl Try.ntmps47 rfl ?_
  obtain ⟨m, hmn⟩ : ∃ m : Nat, (m : Int) = min w H.length := ⟨(min w H.length).toNat, by omega⟩
  have hmt : (min w H.length).toNat = m := by omega
  refine w_seq (w_region (za rfl (wl_nil (st_tn (w_seq (w_region (wl_op [] rfl rfl rfl rfl (op_alloc (l := 5) tN46te) ?_)))))))
  rintro _ _ ⟨b5, rfl, rfl⟩
  refine wl_nil (st_tn (w_seq (w_seq (w_region (zm rfl (zm rfl (zd rfl (op_nilCheck rfl) (zd rfl (op_fieldAddr (off := 1032) rfl tF77_2te) (zd rfl (op_load1 rfl tO3x (seen_ent (Ent.app hm _) hr)) (zd rfl (op_val (v' := .int .i64 (m : Int)) (by rw [hmn]) (op_min rfl rfl)) ?_))))))))))
  refine zm rfl (wl_nil (st_tn (w_block ?_)))
  refine w_loopQ (X := Nat × Int × Int) (fun z => z.1 ≤ m ∧ z.2.1 = sumK H (·.1) z.1 ∧ z.2.2 = sumK H (·.2) z.1) (fun z => [(14, .int .i64 (z.1))]) (fun z => [(5, cel b5 [.string .empty, .string .empty, .int .i64 (z.2.1), .int .i64 (z.2.2)] 46)]) (fun z => m - z.1) ((0, 0, 0)) [(0, _), (5, _), (13, _)] [] [5] rfl (rfl) (.cons rfl (.nil _)) (.cons rfl (.cons rfl (.cons rfl (.nil _)))) (by
      try dsimp only
      exact ⟨Nat.zero_le _, rfl, rfl⟩) ?_
  rintro ⟨k, se, st⟩ ⟨hk, hse, hst⟩
  refine w_norm2 (by dsimp only [List.cons_append, List.nil_append]) (by dsimp only [List.cons_append, List.nil_append]) ?_
  try dsimp only at hk hse hst ⊢
  refine w_seq (w_region (zd rfl (op_lss rfl rfl) (wl_nil (st_tn (w_seq (w_cond_d rfl (fun hc15 => ?_) (fun hc15 => ?_)))))))
  · -- c15.t
    obtain ⟨j, hj⟩ : ∃ j : Nat, j = H.length - 1 - k := ⟨_, rfl⟩
    obtain ⟨q, hq⟩ := getE (l := H) (i := j) (by omega)
    have hqr : ring[j]? = some q := by rw [hh j (by omega)]; exact hq
    obtain ⟨rest, hrest⟩ := G_ring (r := r) (n := H.length) (h := h) (t := t) (tl := tl) hqr
    have hgd : H.getD (H.length - 1 - k) (0, 0) = q := by rw [← hj, List.getD_eq_getElem?_getD, hq]; rfl
    have hqb := hb q (List.mem_of_getElem? hq)
    have hb1 := sumK_bd (H := H) (f := (·.1)) (fun p hp => (hb p hp).1) k (by omega)
    have hb2 := sumK_bd (H := H) (f := (·.2)) (fun p hp => (hb p hp).2) k (by omega)
    rw [← hse] at hb1
    rw [← hst] at hb2
    refine w_skip (st_tn (w_seq (w_block (w_seq (w_region (zm rfl (za rfl (wl_nil (st_tn (w_seq ?_))))))))))
    refine w_drawW (fun β => [⟨17, [], [], [], noW (_), false, [], []⟩, ⟨18, [], [], [], noW (_), false, [], []⟩, ⟨19, [1], [], [], noW (_), false, [], []⟩, ⟨20, [2], [], [], noW (_), false, [], []⟩, ⟨21, [3], [], [], noW (_), false, [], []⟩, ⟨22, [4], [], [], noW (_), false, [], []⟩, ⟨23, [], [], [], noW (_), false, [], []⟩, ⟨24, [5, 6], [], [], noW (_), false, [], []⟩, ⟨25, [7], [], [], noW (_), false, [], []⟩, ⟨26, [0], [], [], noW (_), false, [], []⟩, ⟨27, [9], [], [], noW (_), false, [], []⟩, ⟨28, [10, 8], [], [], noW (_), false, [], []⟩, ⟨29, [11], [], [], noW (_), false, [], []⟩, ⟨7, [], [], [], fun w => DetW _ _, false, [], []⟩]) [] [0, 6] [⟨17, [], [], false, [], []⟩, ⟨18, [], [], false, [], []⟩, ⟨19, [1], [], false, [], []⟩, ⟨20, [2], [], false, [], []⟩, ⟨21, [3], [], false, [], []⟩, ⟨22, [4], [], false, [], []⟩, ⟨23, [], [], false, [], []⟩, ⟨24, [5, 6], [], false, [], []⟩, ⟨25, [7], [], false, [], []⟩, ⟨26, [0], [], false, [], []⟩, ⟨27, [9], [], false, [], []⟩, ⟨28, [10, 8], [], false, [], []⟩, ⟨29, [11], [], false, [], []⟩, ⟨7, [], [], false, [], []⟩] [[], [], [], [], [], [], [], [], [], [], [], [], [], []] [[], [], [], [], [], [], [], [], [], [], [], [], [], []] tMixte (fun _ => by rfl) (fun _ => by rfl) (by kernel_rfl) (by kernel_rfl) (by rfl) (by rfl)
        (fun β => ⟨.p rfl (by intro X; exact op_move rfl),
        ⟨.p rfl (by intro X; exact op_move rfl),
        ⟨.p rfl (by intro X; rintro _ _ ⟨rfl, rfl⟩; exact op_nilCheck rfl),
        ⟨.p rfl (by intro X; rintro _ _ ⟨rfl, rfl⟩; exact op_fieldAddr (off := 1032) rfl tF77_2te),
        ⟨.p rfl (by intro X; rintro _ _ ⟨rfl, rfl⟩; exact op_load1 rfl tO3x (seen_ent (Ent.app (Ent.app hm X) _) hr)),
        ⟨.p rfl (by intro X; rintro _ _ ⟨rfl, rfl⟩; exact op_sub' rfl rfl (by omega)),
        ⟨.p rfl (by intro X; exact op_move rfl),
        ⟨.p rfl (by intro X; rintro _ _ ⟨rfl, rfl⟩ _ _ ⟨rfl, rfl⟩; exact op_sub' rfl rfl (by omega)),
        ⟨.p rfl (by intro X; rintro _ _ ⟨rfl, rfl⟩; exact op_val (v' := .int .i64 ((j : Nat) : Int)) (by rw [show ((H.length : Int) - 1 - (k : Int)) % 256 = (j : Int) by omega]) (op_remN rfl rfl (by omega) (by omega))),
        ⟨.p rfl (by intro X; rintro _ _ ⟨rfl, rfl⟩; exact op_nilCheck rfl),
        ⟨.p rfl (by intro X; rintro _ _ ⟨rfl, rfl⟩; exact op_fieldAddr (off := 8) rfl tF77_1te),
        ⟨.p rfl (by intro X; rintro _ _ ⟨rfl, rfl⟩ _ _ ⟨rfl, rfl⟩; exact op_idxArr (i := j) rfl rfl tR75x (by omega)),
        ⟨.p rfl (by intro X; rintro _ _ ⟨rfl, rfl⟩; exact op_loadA rfl tA46x (ring_ent (Ent.app (Ent.app hm X) _) hrest) (by show 4 ≤ rest.length + 4; omega)),
        ⟨.px rfl (by intro X; refine OpT.mono (op_alloc (l := 7) tN46te) ?_; rintro _ _ ⟨b7, rfl, rfl⟩; obtain ⟨w, rfl⟩ : ∃ w : Wt, w.b = b7 := ⟨{ b := b7 }, rfl⟩; exact ⟨w, rfl, rfl⟩),
        trivial⟩⟩⟩⟩⟩⟩⟩⟩⟩⟩⟩⟩⟩⟩)
        (fun β β' => ⟨fun _ => by rfl, ⟨fun _ => by rfl, ⟨fun _ => by rfl, ⟨fun _ => by rfl, ⟨fun _ => by rfl, ⟨fun _ => by rfl, ⟨fun _ => by rfl, ⟨fun _ => by rfl, ⟨fun _ => by rfl, ⟨fun _ => by rfl, ⟨fun _ => by rfl, ⟨fun _ => by rfl, ⟨fun _ => by rfl, ⟨fun _ => by rfl, trivial⟩⟩⟩⟩⟩⟩⟩⟩⟩⟩⟩⟩⟩⟩) ?_
    intro β
    rintro _ _ ⟨rfl, rfl⟩ _ _ ⟨rfl, rfl⟩ _ _ ⟨rfl, rfl⟩ _ _ ⟨rfl, rfl⟩ _ _ ⟨rfl, rfl⟩ _ _ ⟨rfl, rfl⟩ _ _ ⟨rfl, rfl⟩ _ _ ⟨rfl, rfl⟩ _ _ ⟨rfl, rfl⟩ _ _ ⟨rfl, rfl⟩ _ _ ⟨rfl, rfl⟩ _ _ ⟨rfl, rfl⟩ _ _ ⟨rfl, rfl⟩ _ _ ⟨rfl, rfl⟩
    generalize (β 13).b = b7
    refine wl_norm (e' := [(0, _), (5, _), (7, _), (13, _), (14, _), (29, _)]) (.cons rfl (.cons rfl (.cons rfl (.cons rfl (.cons rfl (.cons rfl (.nil _))))))) (by dsimp only [cond_false, cond_true, List.nil_append, List.cons_append]) ?_
    refine wl_op0 [7] rfl rfl rfl (op_store rfl rfl tZ46te (by rfl) (by rfl) (by exact Nat.le_of_ble_eq_true rfl)) ?_
    rintro _ _ ⟨rfl, rfl⟩
    refine wl_nil (st_tn ?_)
    refine w_drawW (fun β => [⟨30, [], [], [], noW (_), false, [], []⟩, ⟨31, [0], [], [], noW (_), false, [11], []⟩, ⟨32, [], [], [], noW (_), false, [], []⟩, ⟨33, [2], [], [], noW (_), false, [], []⟩, ⟨34, [1, 3], [], [], noW (_), false, [], []⟩, ⟨35, [], [], [], noW (_), false, [], []⟩, ⟨36, [5], [], [], noW (_), false, [11], []⟩, ⟨37, [], [], [], noW (_), false, [], []⟩, ⟨38, [7], [], [], noW (_), false, [], []⟩, ⟨39, [6, 8], [], [], noW (_), false, [], []⟩, ⟨40, [], [], [], noW (_), false, [], []⟩, ⟨64, [10, 4], [], [(5, _)], noW (_), false, [], []⟩]) [5] [5, 7] [⟨30, [], [], false, [], []⟩, ⟨31, [0], [], false, [11], []⟩, ⟨32, [], [], false, [], []⟩, ⟨33, [2], [], false, [], []⟩, ⟨34, [1, 3], [], false, [], []⟩, ⟨35, [], [], false, [], []⟩, ⟨36, [5], [], false, [11], []⟩, ⟨37, [], [], false, [], []⟩, ⟨38, [7], [], false, [], []⟩, ⟨39, [6, 8], [], false, [], []⟩, ⟨40, [], [], false, [], []⟩, ⟨64, [10, 4], [], false, [], []⟩] [[], [], [], [], [], [], [], [], [], [], [], []] [[], [], [], [], [], [], [], [], [], [], [], [(5, _)]] tMixte (fun _ => by rfl) (fun _ => by rfl) (by kernel_rfl) (by kernel_rfl) (by rfl) (by rfl)
        (fun β => ⟨.p rfl (by intro X; exact op_fieldAddr (off := 2) rfl tF46_2te),
        ⟨.p rfl (by intro X; rintro _ _ ⟨rfl, rfl⟩; exact op_load1 rfl tO3te (Ent.lab (l := 5) rfl (says_cel 2))),
        ⟨.p rfl (by intro X; exact op_fieldAddr (off := 2) rfl tF46_2te),
        ⟨.p rfl (by intro X; rintro _ _ ⟨rfl, rfl⟩; exact op_load1 rfl tO3te (Ent.lab (l := 7) rfl (says_cel 2))),
        ⟨.p rfl (by intro X; rintro _ _ ⟨rfl, rfl⟩ _ _ ⟨rfl, rfl⟩; exact op_add' rfl rfl (by omega)),
        ⟨.p rfl (by intro X; exact op_fieldAddr (off := 3) rfl tF46_3te),
        ⟨.p rfl (by intro X; rintro _ _ ⟨rfl, rfl⟩; exact op_load1 rfl tO3te (Ent.lab (l := 5) rfl (says_cel 3))),
        ⟨.p rfl (by intro X; exact op_fieldAddr (off := 3) rfl tF46_3te),
        ⟨.p rfl (by intro X; rintro _ _ ⟨rfl, rfl⟩; exact op_load1 rfl tO3te (Ent.lab (l := 7) rfl (says_cel 3))),
        ⟨.p rfl (by intro X; rintro _ _ ⟨rfl, rfl⟩ _ _ ⟨rfl, rfl⟩; exact op_add' rfl rfl (by omega)),
        ⟨.p rfl (by intro X; exact op_fieldAddr (off := 2) rfl tF46_2te),
        ⟨.p rfl (by intro X; rintro _ _ ⟨rfl, rfl⟩ _ _ ⟨rfl, rfl⟩; exact op_store rfl rfl tZ3te (by rfl) (by rfl) (by exact Nat.le_of_ble_eq_true rfl)) (hu := by exact .inr fun _ _ h => h.1),
        trivial⟩⟩⟩⟩⟩⟩⟩⟩⟩⟩⟩⟩)
        (fun β β' => ⟨fun _ => by rfl, ⟨fun _ => by rfl, ⟨fun _ => by rfl, ⟨fun _ => by rfl, ⟨fun _ => by rfl, ⟨fun _ => by rfl, ⟨fun _ => by rfl, ⟨fun _ => by rfl, ⟨fun _ => by rfl, ⟨fun _ => by rfl, ⟨fun _ => by rfl, ⟨fun _ => by rfl, trivial⟩⟩⟩⟩⟩⟩⟩⟩⟩⟩⟩⟩) ?_
    intro β
    rintro _ _ ⟨rfl, rfl⟩ _ _ ⟨rfl, rfl⟩ _ _ ⟨rfl, rfl⟩ _ _ ⟨rfl, rfl⟩ _ _ ⟨rfl, rfl⟩ _ _ ⟨rfl, rfl⟩ _ _ ⟨rfl, rfl⟩ _ _ ⟨rfl, rfl⟩ _ _ ⟨rfl, rfl⟩ _ _ ⟨rfl, rfl⟩ _ _ ⟨rfl, rfl⟩ _ _ ⟨rfl, rfl⟩
    refine wl_norm (e' := [(0, _), (5, _), (13, _), (14, _), (39, _)]) (.cons rfl (.cons rfl (.cons rfl (.cons rfl (.cons rfl (.nil _)))))) (by dsimp only [cond_false, cond_true, List.nil_append, List.cons_append]) ?_
    refine zd rfl (op_fieldAddr (off := 3) rfl tF46_3te) (wl_op0 [5] rfl rfl rfl (op_store rfl rfl tZ3te (by rfl) (by rfl) (by exact Nat.le_of_ble_eq_true rfl)) ?_)
    rintro _ _ ⟨rfl, rfl⟩
    refine wl_nil (st_bn (st_tn (w_region (zd rfl (op_add' rfl rfl (by omega)) ?_))))
    refine zm rfl (wl_nil ?_)
    refine st_roundQ (x := (k, se, st)) ((k + 1, se + q.1, st + q.2)) [5] rfl (rfl) (.cons rfl (.nil _)) (.cons rfl (.cons rfl (.cons rfl (.nil _)))) (by
        try dsimp only
        refine ⟨by omega, ?_, ?_⟩
        · rw [sumK, hse, hgd]
        · rw [sumK, hst, hgd]) (by
        try dsimp only
        omega)
  · -- c15.f
    refine w_exit (st_te ?_)
    refine st_te ?_
    refine st_be (st_tn (w_seq ?_))
    have hb1 := sumK_bd (H := H) (f := (·.1)) (fun p hp => (hb p hp).1) k (by omega)
    have hb2 := sumK_bd (H := H) (f := (·.2)) (fun p hp => (hb p hp).2) k (by omega)
    rw [← hse] at hb1
    rw [← hst] at hb2
    refine w_drawW (fun β => [⟨43, [], [], [], noW (_), false, [], []⟩, ⟨44, [0], [], [], noW (_), false, [], []⟩, ⟨45, [], [], [], noW (_), false, [], []⟩, ⟨46, [2], [], [], noW (_), false, [], []⟩, ⟨47, [], [], [], noW (_), false, [], []⟩, ⟨48, [4], [], [], noW (_), false, [], []⟩, ⟨49, [5], [], [], noW (_), false, [], []⟩, ⟨50, [6], [], [], noW (_), false, [], []⟩, ⟨51, [7], [], [], noW (_), false, [], []⟩]) [] [5, 0] [⟨43, [], [], false, [], []⟩, ⟨44, [0], [], false, [], []⟩, ⟨45, [], [], false, [], []⟩, ⟨46, [2], [], false, [], []⟩, ⟨47, [], [], false, [], []⟩, ⟨48, [4], [], false, [], []⟩, ⟨49, [5], [], false, [], []⟩, ⟨50, [6], [], false, [], []⟩, ⟨51, [7], [], false, [], []⟩] [[], [], [], [], [], [], [], [], []] [[], [], [], [], [], [], [], [], []] tMixte (fun _ => by rfl) (fun _ => by rfl) (by kernel_rfl) (by kernel_rfl) (by rfl) (by rfl)
        (fun β => ⟨.p rfl (by intro X; exact op_fieldAddr (off := 2) rfl tF46_2te),
        ⟨.p rfl (by intro X; rintro _ _ ⟨rfl, rfl⟩; exact op_load1 rfl tO3te (Ent.lab (l := 5) rfl (says_cel 2))),
        ⟨.p rfl (by intro X; exact op_fieldAddr (off := 3) rfl tF46_3te),
        ⟨.p rfl (by intro X; rintro _ _ ⟨rfl, rfl⟩; exact op_load1 rfl tO3te (Ent.lab (l := 5) rfl (says_cel 3))),
        ⟨.p rfl (by intro X; exact op_move rfl),
        ⟨.p rfl (by intro X; rintro _ _ ⟨rfl, rfl⟩; exact op_nilCheck rfl),
        ⟨.p rfl (by intro X; rintro _ _ ⟨rfl, rfl⟩; exact op_fieldAddr (off := 0) rfl tF77_0te),
        ⟨.p rfl (by intro X; rintro _ _ ⟨rfl, rfl⟩; exact op_fieldAddr (off := 3) rfl tF27_3te),
        ⟨.p rfl (by intro X; rintro _ _ ⟨rfl, rfl⟩; exact op_load1 rfl tO3x (Ent.fld (Ent.fld (Ent.app (Ent.app hm X) _) 0) 3)),
        trivial⟩⟩⟩⟩⟩⟩⟩⟩⟩)
        (fun β β' => ⟨fun _ => by rfl, ⟨fun _ => by rfl, ⟨fun _ => by rfl, ⟨fun _ => by rfl, ⟨fun _ => by rfl, ⟨fun _ => by rfl, ⟨fun _ => by rfl, ⟨fun _ => by rfl, ⟨fun _ => by rfl, trivial⟩⟩⟩⟩⟩⟩⟩⟩⟩) ?_
    intro β
    rintro _ _ ⟨rfl, rfl⟩ _ _ ⟨rfl, rfl⟩ _ _ ⟨rfl, rfl⟩ _ _ ⟨rfl, rfl⟩ _ _ ⟨rfl, rfl⟩ _ _ ⟨rfl, rfl⟩ _ _ ⟨rfl, rfl⟩ _ _ ⟨rfl, rfl⟩ _ _ ⟨rfl, rfl⟩
    refine wl_norm (e' := [(44, _), (46, _), (51, _)]) (.cons rfl (.cons rfl (.cons rfl (.nil _)))) (by dsimp only [cond_false, cond_true, List.nil_append, List.cons_append]) ?_
    refine zd rfl (op_fn Try.func31 rfl rfl rfl (burn_any se st r.tgt (by omega) (by omega) hg)) ?_
    refine za rfl (wl_nil (st_tn (w_ret (st_ret (vs := [_]) [] Try.results47 ⟨rfl, trivial⟩ rfl ?_))))
    refine ⟨_, rfl, ?_⟩
    have hkm : k = m := by omega
    unfold rateH; rw [hmt, ← hkm, ← hse, ← hst]; exact ⟨rfl, rfl⟩
end Go.Proofs.Ytecmigildpkigaa
namespace Go.Proofs.Ytecmigildpkigaa
open Go Go.SL Go.RowKit
set_option linter.unusedVariables false
set_option linter.unusedSimpArgs false
theorem tB46tf : placesB Try.prog 46 = some ([(0, 1), (1, 1), (2, 1), (3, 1)], [Value.string .empty, Value.string .empty, Value.int .i64 0, Value.int .i64 0]) := by kernel_rfl
theorem tF27_4tf : fieldB Try.prog 27 4 4 = true := by kernel_rfl
theorem tF27_5tf : fieldB Try.prog 27 5 5 = true := by kernel_rfl
theorem tF27_6tf : fieldB Try.prog 27 6 6 = true := by kernel_rfl
theorem tF27_7tf : fieldB Try.prog 27 7 7 = true := by kernel_rfl
theorem tF77_0tf : fieldB Try.prog 77 0 0 = true := by kernel_rfl
theorem tF77_1tf : fieldB Try.prog 77 1 8 = true := by kernel_rfl
theorem tF77_2tf : fieldB Try.prog 77 2 1032 = true := by kernel_rfl
theorem tF77_3tf : fieldB Try.prog 77 3 1033 = true := by kernel_rfl
theorem tF77_4tf : fieldB Try.prog 77 4 1034 = true := by kernel_rfl
theorem tMixtf : Try.prog.follows .mixedOrders = true := by kernel_rfl
theorem tZ46x : (Try.prog.info? 46).map (·.size) = some 4 := by kernel_rfl
theorem tZ3x : (Try.prog.info? 3).map (·.size) = some 1 := by kernel_rfl
theorem says_cel0 {b : Nat} {c : List Value} {T : TypeId} : Says (cel b c T) (At ⟨b, 0, none⟩ c) := says_cel 0
def ringV (H : RingV) : RingV := H ++ List.replicate (256 - H.length) (0, 0)
theorem ringV_len {H : RingV} (h : H.length ≤ 256) : (ringV H).length = 256 := by unfold ringV; rw [List.length_append, List.length_replicate]; omega
theorem ringV_get {H : RingV} {j : Nat} (h : j < H.length) : (ringV H)[j]? = H[j]? := by unfold ringV; rw [List.getElem?_append_left h]
theorem ringV_set {H : RingV} (p : Int × Int) (h : H.length < 256) : (ringV H).set H.length p = ringV (H ++ [p]) := by
  unfold ringV
  rw [List.set_append, if_neg (Nat.lt_irrefl _), Nat.sub_self]
  obtain ⟨m, hm⟩ : ∃ m, 256 - H.length = m + 1 := ⟨255 - H.length, by omega⟩
  rw [hm, List.replicate_succ, List.set_cons_zero, List.length_append, List.length_singleton, show 256 - (H.length + 1) = m by omega]
  simp
theorem held_ent {σ : World} {F : List Res} {b : Nat} {r : RuV} {ring : RingV} {n h t : Int} {tl : List Value} (hm : Ent σ F (At ⟨b, 0, none⟩ (encG r ring n h t tl))) (hr : ring.length = 256) : Ent σ F (At ((⟨b, 0, none⟩ : Addr).add 1033) (.int .i64 h :: .int .i64 t :: tl)) := by
  have := hm.fld 1033
  rwa [show 1033 = 1032 + 1 from rfl, ← List.drop_drop, G_tail hr] at this
theorem state_ent {σ : World} {F : List Res} {b : Nat} {r : RuV} {ring : RingV} {n h t : Int} {tl : List Value} (hm : Ent σ F (At ⟨b, 0, none⟩ (encG r ring n h t tl))) (hr : ring.length = 256) : Ent σ F (At ((⟨b, 0, none⟩ : Addr).add 1034) (.int .i64 t :: tl)) := by
  have := hm.fld 1034
  rwa [show 1034 = 1032 + 2 from rfl, ← List.drop_drop, G_tail hr] at this
theorem rule_ent4 {σ : World} {F : List Res} {b : Nat} {r : RuV} {ring : RingV} {n h t : Int} {tl : List Value} (hm : Ent σ F (At ⟨b, 0, none⟩ (encG r ring n h t tl))) : Ent σ F (At (((⟨b, 0, none⟩ : Addr).add 0).add 4) (.int .i64 r.long :: .int .i64 r.short :: .int .i64 r.brn :: .int .i64 r.fr :: (flatR ring ++ (.int .i64 n :: .int .i64 h :: .int .i64 t :: tl)))) := (hm.fld 0).fld 4
theorem rule_ent5 {σ : World} {F : List Res} {b : Nat} {r : RuV} {ring : RingV} {n h t : Int} {tl : List Value} (hm : Ent σ F (At ⟨b, 0, none⟩ (encG r ring n h t tl))) : Ent σ F (At (((⟨b, 0, none⟩ : Addr).add 0).add 5) (.int .i64 r.short :: .int .i64 r.brn :: .int .i64 r.fr :: (flatR ring ++ (.int .i64 n :: .int .i64 h :: .int .i64 t :: tl)))) := (hm.fld 0).fld 5
theorem rule_ent6 {σ : World} {F : List Res} {b : Nat} {r : RuV} {ring : RingV} {n h t : Int} {tl : List Value} (hm : Ent σ F (At ⟨b, 0, none⟩ (encG r ring n h t tl))) : Ent σ F (At (((⟨b, 0, none⟩ : Addr).add 0).add 6) (.int .i64 r.brn :: .int .i64 r.fr :: (flatR ring ++ (.int .i64 n :: .int .i64 h :: .int .i64 t :: tl)))) := (hm.fld 0).fld 6
theorem rule_ent7 {σ : World} {F : List Res} {b : Nat} {r : RuV} {ring : RingV} {n h t : Int} {tl : List Value} (hm : Ent σ F (At ⟨b, 0, none⟩ (encG r ring n h t tl))) : Ent σ F (At (((⟨b, 0, none⟩ : Addr).add 0).add 7) (.int .i64 r.fr :: (flatR ring ++ (.int .i64 n :: .int .i64 h :: .int .i64 t :: tl)))) := (hm.fld 0).fld 7
def quietP (r : RuV) (H : RingV) : Prop := rateH r.tgt H r.long < r.brn ∨ rateH r.tgt H r.short < r.brn
instance (r : RuV) (H : RingV) : Decidable (quietP r H) := by unfold quietP; infer_instance
def heldN (r : RuV) (H : RingV) (h : Int) : Int := if quietP r H then 0 else h + 1
def stateN (r : RuV) (H : RingV) (h : Int) : Int := if quietP r H then 0 else if h + 1 > r.fr then 2 else 1
set_option maxHeartbeats 2000000 in
set_option maxRecDepth 100000 in
theorem observe_any {σ : World} {F : List Res} {b : Nat} {r : RuV} {H : RingV} {h st : Int} {tl : List Value} (e t : Int) (hrO : RuOk r) (hl : H.length ≤ 100) (hb : ∀ p ∈ H, (0 ≤ p.1 ∧ p.1 ≤ 1000) ∧ 0 ≤ p.2 ∧ p.2 ≤ 1000) (he : 0 ≤ e ∧ e ≤ 1000) (ht : 0 ≤ t ∧ t ≤ 1000) (hh : 0 ≤ h ∧ h ≤ 1000000) :
    FnT Try.prog σ F 26 [.pointer (some ⟨b, 0, none⟩), .int .i64 e, .int .i64 t] [(601, cel b (encG r (ringV H) H.length h st tl) 77)] (fun u ρ => u = .int .i64 (stateN r (H ++ [(e, t)]) h) ∧ ρ = [(601, cel b (encG r (ringV (H ++ [(e, t)])) ((H ++ [(e, t)]).length : Nat) (heldN r (H ++ [(e, t)]) h) (stateN r (H ++ [(e, t)]) h) tl) 77)]) := by
  refine fn_of 91 Try.func26 rfl Try.ntmps26 rfl ?_
  have hr := ringV_len (H := H) (by omega)
  obtain ⟨H', hH⟩ : ∃ H', H' = H ++ [(e, t)] := ⟨_, rfl⟩
  rw [← hH]
  have hl' : H'.length = H.length + 1 := by rw [hH, List.length_append, List.length_singleton]
  have hr' := ringV_len (H := H') (by omega)
  have hb' : ∀ p ∈ H', (0 ≤ p.1 ∧ p.1 ≤ 1000) ∧ 0 ≤ p.2 ∧ p.2 ≤ 1000 := fun p hp => by
    rw [hH] at hp
    rcases List.mem_append.1 hp with hp | hp
    · exact hb p hp
    · rw [List.mem_singleton] at hp; subst hp; exact ⟨he, ht⟩
  obtain ⟨ra, hra⟩ : ∃ z : Int, z = rateH r.tgt H' r.long := ⟨_, rfl⟩
  obtain ⟨rb, hrb⟩ : ∃ z : Int, z = rateH r.tgt H' r.short := ⟨_, rfl⟩
  have hsh := hrO.short
  have hfr := hrO.fr
  refine w_seq (w_region (za rfl (wl_nil (st_tn (w_seq ?_)))))
  refine w_drawW (fun β => [⟨7, [], [], [], noW (_), false, [], []⟩, ⟨8, [], [], [], noW (_), false, [], []⟩, ⟨9, [1], [], [], noW (_), false, [], []⟩, ⟨10, [2], [], [], noW (_), false, [], []⟩, ⟨11, [3], [], [], noW (_), false, [], []⟩, ⟨12, [4], [], [], noW (_), false, [], []⟩, ⟨13, [], [], [], noW (_), false, [], []⟩, ⟨14, [], [], [], noW (_), false, [], []⟩, ⟨15, [6, 7], [], [], noW (_), false, [], []⟩, ⟨16, [0], [], [], noW (_), false, [], []⟩, ⟨17, [9], [], [], noW (_), false, [], []⟩]) [] [0, 1, 2] [⟨7, [], [], false, [], []⟩, ⟨8, [], [], false, [], []⟩, ⟨9, [1], [], false, [], []⟩, ⟨10, [2], [], false, [], []⟩, ⟨11, [3], [], false, [], []⟩, ⟨12, [4], [], false, [], []⟩, ⟨13, [], [], false, [], []⟩, ⟨14, [], [], false, [], []⟩, ⟨15, [6, 7], [], false, [], []⟩, ⟨16, [0], [], false, [], []⟩, ⟨17, [9], [], false, [], []⟩] [[], [], [], [], [], [], [], [], [], [], []] [[], [], [], [], [], [], [], [], [], [], []] tMixtf (fun _ => by rfl) (fun _ => by rfl) (by kernel_rfl) (by kernel_rfl) (by rfl) (by rfl)
      (fun β => ⟨.p rfl (by intro X; exact op_move rfl),
      ⟨.p rfl (by intro X; exact op_move rfl),
      ⟨.p rfl (by intro X; rintro _ _ ⟨rfl, rfl⟩; exact op_nilCheck rfl),
      ⟨.p rfl (by intro X; rintro _ _ ⟨rfl, rfl⟩; exact op_fieldAddr (off := 1032) rfl tF77_2tf),
      ⟨.p rfl (by intro X; rintro _ _ ⟨rfl, rfl⟩; exact op_load1 rfl tO3x (seen_ent (Ent.lab (l := 601) rfl says_cel0) hr)),
      ⟨.p rfl (by intro X; rintro _ _ ⟨rfl, rfl⟩; exact op_val (v' := .int .i64 ((H.length : Nat) : Int)) (by rw [show ((H.length : Int)) % 256 = (H.length : Int) by omega]) (op_remN rfl rfl (by omega) (by omega))),
      ⟨.p rfl (by intro X; exact op_move rfl),
      ⟨.p rfl (by intro X; exact op_move rfl),
      ⟨.p rfl (by intro X; rintro _ _ ⟨rfl, rfl⟩ _ _ ⟨rfl, rfl⟩; exact op_build tB46tf rfl rfl),
      ⟨.p rfl (by intro X; rintro _ _ ⟨rfl, rfl⟩; exact op_nilCheck rfl),
      ⟨.p rfl (by intro X; rintro _ _ ⟨rfl, rfl⟩; exact op_fieldAddr (off := 8) rfl tF77_1tf),
      trivial⟩⟩⟩⟩⟩⟩⟩⟩⟩⟩⟩)
      (fun β β' => ⟨fun _ => by rfl, ⟨fun _ => by rfl, ⟨fun _ => by rfl, ⟨fun _ => by rfl, ⟨fun _ => by rfl, ⟨fun _ => by rfl, ⟨fun _ => by rfl, ⟨fun _ => by rfl, ⟨fun _ => by rfl, ⟨fun _ => by rfl, ⟨fun _ => by rfl, trivial⟩⟩⟩⟩⟩⟩⟩⟩⟩⟩⟩) ?_
  intro β
  rintro _ _ ⟨rfl, rfl⟩ _ _ ⟨rfl, rfl⟩ _ _ ⟨rfl, rfl⟩ _ _ ⟨rfl, rfl⟩ _ _ ⟨rfl, rfl⟩ _ _ ⟨rfl, rfl⟩ _ _ ⟨rfl, rfl⟩ _ _ ⟨rfl, rfl⟩ _ _ ⟨rfl, rfl⟩ _ _ ⟨rfl, rfl⟩ _ _ ⟨rfl, rfl⟩
  refine wl_norm (e' := [(0, _), (12, _), (15, _), (17, _)]) (.cons rfl (.cons rfl (.cons rfl (.cons rfl (.nil _))))) (by dsimp only [cond_false, cond_true, List.nil_append, List.cons_append]) ?_
  refine zd rfl (op_idxArr (i := H.length) rfl rfl tR75x (by omega)) ?_
  refine wl_op0 [601] rfl rfl rfl (op_store (b := b) (o := 8 + H.length * 4) (by show some (Value.pointer (some (((⟨b, 0, none⟩ : Addr).add 8).add (H.length * 4)))) = _; simp [Addr.add]) rfl tZ46x (by rfl) (by rfl) (by rw [G_len hr]; omega)) ?_
  rintro _ _ ⟨rfl, rfl⟩
  refine wl_nil (st_tn (w_seq (w_wk 601 (cel b (encG r (ringV H') H.length h st tl) 77) rfl (fun _ hh => by rw [hH, ← ringV_set (e, t) (by omega), ← G_setR (e, t) (by omega)]; exact hh) ?_)))
  refine w_region (zm rfl (zd rfl (op_nilCheck rfl) (zd rfl (op_fieldAddr (off := 1032) rfl tF77_2tf) (zd rfl (op_load1 rfl tO3x (seen_ent (Ent.lab (l := 601) rfl says_cel0) hr')) (zd rfl (op_add' rfl rfl (by omega)) ?_)))))
  refine zd rfl (op_nilCheck rfl) (zd rfl (op_fieldAddr (off := 1032) rfl tF77_2tf) (wl_op0 [601] rfl rfl rfl (op_store (b := b) (o := 0 + 1032) rfl rfl tZ3x (by rfl) (by rfl) (by rw [G_len hr']; omega)) ?_))
  rintro _ _ ⟨rfl, rfl⟩
  refine wl_nil (st_tn (w_seq (w_seq (w_wk 601 (cel b (encG r (ringV H') (H'.length : Nat) h st tl) 77) rfl (fun _ hh => by rw [show ((H'.length : Nat) : Int) = (H.length : Int) + 1 by omega, ← (G_set3 hr' ((H.length : Int) + 1)).1]; exact hh) ?_))))
  by_cases hA : ra < r.brn
  · -- hA True
    refine w_drawW (fun β => [⟨26, [], [], [], noW (_), false, [], []⟩, ⟨27, [], [], [], noW (_), false, [], []⟩, ⟨28, [1], [], [], noW (_), false, [], []⟩, ⟨29, [2], [], [], noW (_), false, [], []⟩, ⟨30, [3], [], [], noW (_), false, [], []⟩, ⟨31, [4], [], [], noW (_), false, [], []⟩, ⟨32, [0, 5], [], [], noW (_), false, [], []⟩, ⟨33, [], [], [], noW (_), false, [], []⟩, ⟨34, [7], [], [], noW (_), false, [], []⟩, ⟨35, [8], [], [], noW (_), false, [], []⟩, ⟨36, [9], [], [], noW (_), false, [], []⟩, ⟨37, [10], [], [], noW (_), false, [], []⟩, ⟨38, [6, 11], [], [], noW (_), false, [], []⟩, ⟨39, [12], [], [], noW (_), false, [], []⟩, ⟨40, [], [], [], noW (Det undef), false, [], []⟩, ⟨41, [], [], [], noW (Det undef), false, [], []⟩, ⟨42, [], [], [], noW (Det undef), false, [], []⟩, ⟨43, [], [], [], noW (Det undef), false, [], []⟩, ⟨44, [], [], [], noW (Det undef), false, [], []⟩, ⟨45, [], [], [], noW (Det undef), false, [], []⟩, ⟨46, [], [], [], noW (Det undef), false, [], []⟩, ⟨47, [], [], [], noW (Det undef), false, [], []⟩, ⟨48, [], [], [], noW (Det undef), false, [], []⟩, ⟨49, [], [], [], noW (Det undef), false, [], []⟩, ⟨50, [], [], [], noW (Det undef), false, [], []⟩, ⟨51, [], [], [], noW (Det undef), false, [], []⟩, ⟨52, [], [], [], noW (Det undef), false, [], []⟩, ⟨53, [13, 26], [], [], noW (_), false, [], []⟩]) [] [0] [⟨26, [], [], false, [], []⟩, ⟨27, [], [], false, [], []⟩, ⟨28, [1], [], false, [], []⟩, ⟨29, [2], [], false, [], []⟩, ⟨30, [3], [], false, [], []⟩, ⟨31, [4], [], false, [], []⟩, ⟨32, [0, 5], [], false, [], []⟩, ⟨33, [], [], false, [], []⟩, ⟨34, [7], [], false, [], []⟩, ⟨35, [8], [], false, [], []⟩, ⟨36, [9], [], false, [], []⟩, ⟨37, [10], [], false, [], []⟩, ⟨38, [6, 11], [], false, [], []⟩, ⟨39, [12], [], false, [], []⟩, ⟨40, [], [], false, [], []⟩, ⟨41, [], [], false, [], []⟩, ⟨42, [], [], false, [], []⟩, ⟨43, [], [], false, [], []⟩, ⟨44, [], [], false, [], []⟩, ⟨45, [], [], false, [], []⟩, ⟨46, [], [], false, [], []⟩, ⟨47, [], [], false, [], []⟩, ⟨48, [], [], false, [], []⟩, ⟨49, [], [], false, [], []⟩, ⟨50, [], [], false, [], []⟩, ⟨51, [], [], false, [], []⟩, ⟨52, [], [], false, [], []⟩, ⟨53, [13, 26], [], false, [], []⟩] [[], [], [], [], [], [], [], [], [], [], [], [], [], [], [], [], [], [], [], [], [], [], [], [], [], [], [], []] [[], [], [], [], [], [], [], [], [], [], [], [], [], [], [], [], [], [], [], [], [], [], [], [], [], [], [], []] tMixtf (fun _ => by rfl) (fun _ => by rfl) (by kernel_rfl) (by kernel_rfl) (by rfl) (by rfl)
        (fun β => ⟨.p rfl (by intro X; exact op_move rfl),
        ⟨.p rfl (by intro X; exact op_move rfl),
        ⟨.p rfl (by intro X; rintro _ _ ⟨rfl, rfl⟩; exact op_nilCheck rfl),
        ⟨.p rfl (by intro X; rintro _ _ ⟨rfl, rfl⟩; exact op_fieldAddr (off := 0) rfl tF77_0tf),
        ⟨.p rfl (by intro X; rintro _ _ ⟨rfl, rfl⟩; exact op_fieldAddr (off := 4) rfl tF27_4tf),
        ⟨.p rfl (by intro X; rintro _ _ ⟨rfl, rfl⟩; exact op_load1 rfl tO3x (rule_ent4 (Ent.lab (l := 601) rfl says_cel0))),
        ⟨.p rfl (by intro X; rintro _ _ ⟨rfl, rfl⟩ _ _ ⟨rfl, rfl⟩; exact op_fn Try.func47 rfl rfl rfl (fn_imp (rate_any (b := b) (r := r) (ring := ringV H') (H := H') (h := h) (t := st) (tl := tl) r.long (by omega) (Ent.lab (l := 601) rfl says_cel0) hr' (fun j hj => ringV_get hj) (by omega) hb' hrO.tgt) (fun u ρ hu => (by rw [← hra] at hu; exact hu : u = .int .i64 ra ∧ ρ = [])))),
        ⟨.p rfl (by intro X; exact op_move rfl),
        ⟨.p rfl (by intro X; rintro _ _ ⟨rfl, rfl⟩; exact op_nilCheck rfl),
        ⟨.p rfl (by intro X; rintro _ _ ⟨rfl, rfl⟩; exact op_fieldAddr (off := 0) rfl tF77_0tf),
        ⟨.p rfl (by intro X; rintro _ _ ⟨rfl, rfl⟩; exact op_fieldAddr (off := 6) rfl tF27_6tf),
        ⟨.p rfl (by intro X; rintro _ _ ⟨rfl, rfl⟩; exact op_load1 rfl tO3x (rule_ent6 (Ent.lab (l := 601) rfl says_cel0))),
        ⟨.p rfl (by intro X; rintro _ _ ⟨rfl, rfl⟩ _ _ ⟨rfl, rfl⟩; exact op_lss rfl rfl),
        ⟨.p rfl (by intro X; rintro _ _ ⟨rfl, rfl⟩; exact op_move rfl),
        ⟨.u rfl rfl rfl (by rintro _ _ ⟨rfl, rfl⟩; exact congrArg (offB false) (by first | rfl | (exact congrArg Value.bool (decide_eq_true (by omega))) | (exact congrArg Value.bool (decide_eq_false (by omega))) | (simp; done) | (simp; omega) | (simp [*]; done) : _ = Value.bool true)) ⟨rfl, rfl⟩ rfl rfl,
        ⟨.u rfl rfl rfl (by rintro _ _ ⟨rfl, rfl⟩; exact congrArg (offB false) (by first | rfl | (exact congrArg Value.bool (decide_eq_true (by omega))) | (exact congrArg Value.bool (decide_eq_false (by omega))) | (simp; done) | (simp; omega) | (simp [*]; done) : _ = Value.bool true)) ⟨rfl, rfl⟩ rfl rfl,
        ⟨.u rfl rfl rfl (by rintro _ _ ⟨rfl, rfl⟩; exact congrArg (offB false) (by first | rfl | (exact congrArg Value.bool (decide_eq_true (by omega))) | (exact congrArg Value.bool (decide_eq_false (by omega))) | (simp; done) | (simp; omega) | (simp [*]; done) : _ = Value.bool true)) ⟨rfl, rfl⟩ rfl rfl,
        ⟨.u rfl rfl rfl (by rintro _ _ ⟨rfl, rfl⟩; exact congrArg (offB false) (by first | rfl | (exact congrArg Value.bool (decide_eq_true (by omega))) | (exact congrArg Value.bool (decide_eq_false (by omega))) | (simp; done) | (simp; omega) | (simp [*]; done) : _ = Value.bool true)) ⟨rfl, rfl⟩ rfl rfl,
        ⟨.u rfl rfl rfl (by rintro _ _ ⟨rfl, rfl⟩; exact congrArg (offB false) (by first | rfl | (exact congrArg Value.bool (decide_eq_true (by omega))) | (exact congrArg Value.bool (decide_eq_false (by omega))) | (simp; done) | (simp; omega) | (simp [*]; done) : _ = Value.bool true)) ⟨rfl, rfl⟩ rfl rfl,
        ⟨.u rfl rfl rfl (by rintro _ _ ⟨rfl, rfl⟩; exact congrArg (offB false) (by first | rfl | (exact congrArg Value.bool (decide_eq_true (by omega))) | (exact congrArg Value.bool (decide_eq_false (by omega))) | (simp; done) | (simp; omega) | (simp [*]; done) : _ = Value.bool true)) ⟨rfl, rfl⟩ rfl rfl,
        ⟨.u rfl rfl rfl (by rintro _ _ ⟨rfl, rfl⟩; exact congrArg (offB false) (by first | rfl | (exact congrArg Value.bool (decide_eq_true (by omega))) | (exact congrArg Value.bool (decide_eq_false (by omega))) | (simp; done) | (simp; omega) | (simp [*]; done) : _ = Value.bool true)) ⟨rfl, rfl⟩ rfl rfl,
        ⟨.u rfl rfl rfl (by rintro _ _ ⟨rfl, rfl⟩; exact congrArg (offB false) (by first | rfl | (exact congrArg Value.bool (decide_eq_true (by omega))) | (exact congrArg Value.bool (decide_eq_false (by omega))) | (simp; done) | (simp; omega) | (simp [*]; done) : _ = Value.bool true)) ⟨rfl, rfl⟩ rfl rfl,
        ⟨.u rfl rfl rfl (by rintro _ _ ⟨rfl, rfl⟩; exact congrArg (offB false) (by first | rfl | (exact congrArg Value.bool (decide_eq_true (by omega))) | (exact congrArg Value.bool (decide_eq_false (by omega))) | (simp; done) | (simp; omega) | (simp [*]; done) : _ = Value.bool true)) ⟨rfl, rfl⟩ rfl rfl,
        ⟨.u rfl rfl rfl (by rintro _ _ ⟨rfl, rfl⟩; exact congrArg (offB false) (by first | rfl | (exact congrArg Value.bool (decide_eq_true (by omega))) | (exact congrArg Value.bool (decide_eq_false (by omega))) | (simp; done) | (simp; omega) | (simp [*]; done) : _ = Value.bool true)) ⟨rfl, rfl⟩ rfl rfl,
        ⟨.u rfl rfl rfl (by rintro _ _ ⟨rfl, rfl⟩; exact congrArg (offB false) (by first | rfl | (exact congrArg Value.bool (decide_eq_true (by omega))) | (exact congrArg Value.bool (decide_eq_false (by omega))) | (simp; done) | (simp; omega) | (simp [*]; done) : _ = Value.bool true)) ⟨rfl, rfl⟩ rfl rfl,
        ⟨.u rfl rfl rfl (by rintro _ _ ⟨rfl, rfl⟩; exact congrArg (offB false) (by first | rfl | (exact congrArg Value.bool (decide_eq_true (by omega))) | (exact congrArg Value.bool (decide_eq_false (by omega))) | (simp; done) | (simp; omega) | (simp [*]; done) : _ = Value.bool true)) ⟨rfl, rfl⟩ rfl rfl,
        ⟨.u rfl rfl rfl (by rintro _ _ ⟨rfl, rfl⟩; exact congrArg (offB false) (by first | rfl | (exact congrArg Value.bool (decide_eq_true (by omega))) | (exact congrArg Value.bool (decide_eq_false (by omega))) | (simp; done) | (simp; omega) | (simp [*]; done) : _ = Value.bool true)) ⟨rfl, rfl⟩ rfl rfl,
        ⟨.p rfl (by intro X; rintro _ _ ⟨rfl, rfl⟩ _ _ ⟨rfl, rfl⟩; exact op_pick_t (by first | rfl | (show some (Value.bool (decide _)) = _; rw [decide_eq_true (by omega)]) | (show some (Value.bool (decide _)) = _; rw [decide_eq_false (by omega)]) | (simp [ev, lk]; done) | (simp [ev, lk]; omega) | (simp [ev, lk, *]; done)) rfl),
        trivial⟩⟩⟩⟩⟩⟩⟩⟩⟩⟩⟩⟩⟩⟩⟩⟩⟩⟩⟩⟩⟩⟩⟩⟩⟩⟩⟩⟩)
        (fun β β' => ⟨fun _ => by rfl, ⟨fun _ => by rfl, ⟨fun _ => by rfl, ⟨fun _ => by rfl, ⟨fun _ => by rfl, ⟨fun _ => by rfl, ⟨fun _ => by rfl, ⟨fun _ => by rfl, ⟨fun _ => by rfl, ⟨fun _ => by rfl, ⟨fun _ => by rfl, ⟨fun _ => by rfl, ⟨fun _ => by rfl, ⟨fun _ => by rfl, ⟨fun _ => by rfl, ⟨fun _ => by rfl, ⟨fun _ => by rfl, ⟨fun _ => by rfl, ⟨fun _ => by rfl, ⟨fun _ => by rfl, ⟨fun _ => by rfl, ⟨fun _ => by rfl, ⟨fun _ => by rfl, ⟨fun _ => by rfl, ⟨fun _ => by rfl, ⟨fun _ => by rfl, ⟨fun _ => by rfl, ⟨fun _ => by rfl, trivial⟩⟩⟩⟩⟩⟩⟩⟩⟩⟩⟩⟩⟩⟩⟩⟩⟩⟩⟩⟩⟩⟩⟩⟩⟩⟩⟩⟩) ?_
    intro β
    rintro _ _ ⟨rfl, rfl⟩ _ _ ⟨rfl, rfl⟩ _ _ ⟨rfl, rfl⟩ _ _ ⟨rfl, rfl⟩ _ _ ⟨rfl, rfl⟩ _ _ ⟨rfl, rfl⟩ _ _ ⟨rfl, rfl⟩ _ _ ⟨rfl, rfl⟩ _ _ ⟨rfl, rfl⟩ _ _ ⟨rfl, rfl⟩ _ _ ⟨rfl, rfl⟩ _ _ ⟨rfl, rfl⟩ _ _ ⟨rfl, rfl⟩ _ _ ⟨rfl, rfl⟩ _ _ ⟨rfl, rfl⟩ _ _ ⟨rfl, rfl⟩ _ _ ⟨rfl, rfl⟩ _ _ ⟨rfl, rfl⟩ _ _ ⟨rfl, rfl⟩ _ _ ⟨rfl, rfl⟩ _ _ ⟨rfl, rfl⟩ _ _ ⟨rfl, rfl⟩ _ _ ⟨rfl, rfl⟩ _ _ ⟨rfl, rfl⟩ _ _ ⟨rfl, rfl⟩ _ _ ⟨rfl, rfl⟩ _ _ ⟨rfl, rfl⟩ _ _ ⟨rfl, rfl⟩
    refine wl_norm (e' := [(0, _), (53, _)]) (.cons rfl (.cons rfl (.nil _))) (by dsimp only [cond_false, cond_true, List.nil_append, List.cons_append]) ?_
    refine wl_nil (st_tn (w_cond_t (rfl) ?_))
    refine w_seq (w_region (zm rfl (zm rfl (zd rfl (op_nilCheck rfl) (zd rfl (op_fieldAddr (off := 1033) rfl tF77_3tf) (wl_op0 [601] rfl rfl rfl (op_store (b := b) (o := 0 + 1033) rfl rfl tZ3x (by rfl) (by rfl) (by rw [G_len hr']; omega)) ?_))))))
    rintro _ _ ⟨rfl, rfl⟩
    refine zd rfl (op_nilCheck rfl) (zd rfl (op_fieldAddr (off := 1034) rfl tF77_4tf) (wl_op0 [601] rfl rfl rfl (op_store (b := b) (o := 0 + 1034) rfl rfl tZ3x (by rfl) (by rfl) (by rw [setsL_len, G_len hr']; omega)) ?_))
    rintro _ _ ⟨rfl, rfl⟩
    refine wl_nil (st_tn (w_seq (w_wk 601 (cel b (encG r (ringV H') (H'.length : Nat) 0 0 tl) 77) rfl (fun _ hh => by rw [← (G_set3 (h := 0) (t := st) hr' 0).2.2, ← (G_set3 (h := h) (t := st) hr' 0).2.1]; exact hh) ?_)))
    refine w_region (zm rfl (zd rfl (op_nilCheck rfl) (zd rfl (op_fieldAddr (off := 1034) rfl tF77_4tf) (zd rfl (op_load1 rfl tO3x (state_ent (Ent.lab (l := 601) rfl says_cel0) hr')) (za rfl (wl_nil (st_tn (w_ret (st_tr (st_ret (vs := [_]) [601] Try.results26 ⟨rfl, trivial⟩ rfl ?_))))))))))
    refine ⟨[(601, _)], rfl, ?_⟩
    have hq : quietP r H' := by unfold quietP; rw [← hra, ← hrb]; first | exact .inl hA | exact .inr hc53
    unfold stateN heldN; rw [if_pos hq, if_pos hq]; exact ⟨rfl, rfl⟩
  · -- hA False
    refine w_drawW (fun β => [⟨26, [], [], [], noW (_), false, [], []⟩, ⟨27, [], [], [], noW (_), false, [], []⟩, ⟨28, [1], [], [], noW (_), false, [], []⟩, ⟨29, [2], [], [], noW (_), false, [], []⟩, ⟨30, [3], [], [], noW (_), false, [], []⟩, ⟨31, [4], [], [], noW (_), false, [], []⟩, ⟨32, [0, 5], [], [], noW (_), false, [], []⟩, ⟨33, [], [], [], noW (_), false, [], []⟩, ⟨34, [7], [], [], noW (_), false, [], []⟩, ⟨35, [8], [], [], noW (_), false, [], []⟩, ⟨36, [9], [], [], noW (_), false, [], []⟩, ⟨37, [10], [], [], noW (_), false, [], []⟩, ⟨38, [6, 11], [], [], noW (_), false, [], []⟩, ⟨39, [12], [], [], noW (_), false, [], []⟩, ⟨40, [], [], [], noW (_), false, [], []⟩, ⟨41, [], [], [], noW (_), false, [], []⟩, ⟨42, [15], [], [], noW (_), false, [], []⟩, ⟨43, [16], [], [], noW (_), false, [], []⟩, ⟨44, [17], [], [], noW (_), false, [], []⟩, ⟨45, [18], [], [], noW (_), false, [], []⟩, ⟨46, [14, 19], [], [], noW (_), false, [], []⟩, ⟨47, [], [], [], noW (_), false, [], []⟩, ⟨48, [21], [], [], noW (_), false, [], []⟩, ⟨49, [22], [], [], noW (_), false, [], []⟩, ⟨50, [23], [], [], noW (_), false, [], []⟩, ⟨51, [24], [], [], noW (_), false, [], []⟩, ⟨52, [20, 25], [], [], noW (_), false, [], []⟩, ⟨53, [13, 26], [], [], noW (_), false, [], []⟩]) [] [0] [⟨26, [], [], false, [], []⟩, ⟨27, [], [], false, [], []⟩, ⟨28, [1], [], false, [], []⟩, ⟨29, [2], [], false, [], []⟩, ⟨30, [3], [], false, [], []⟩, ⟨31, [4], [], false, [], []⟩, ⟨32, [0, 5], [], false, [], []⟩, ⟨33, [], [], false, [], []⟩, ⟨34, [7], [], false, [], []⟩, ⟨35, [8], [], false, [], []⟩, ⟨36, [9], [], false, [], []⟩, ⟨37, [10], [], false, [], []⟩, ⟨38, [6, 11], [], false, [], []⟩, ⟨39, [12], [], false, [], []⟩, ⟨40, [], [], false, [], []⟩, ⟨41, [], [], false, [], []⟩, ⟨42, [15], [], false, [], []⟩, ⟨43, [16], [], false, [], []⟩, ⟨44, [17], [], false, [], []⟩, ⟨45, [18], [], false, [], []⟩, ⟨46, [14, 19], [], false, [], []⟩, ⟨47, [], [], false, [], []⟩, ⟨48, [21], [], false, [], []⟩, ⟨49, [22], [], false, [], []⟩, ⟨50, [23], [], false, [], []⟩, ⟨51, [24], [], false, [], []⟩, ⟨52, [20, 25], [], false, [], []⟩, ⟨53, [13, 26], [], false, [], []⟩] [[], [], [], [], [], [], [], [], [], [], [], [], [], [], [], [], [], [], [], [], [], [], [], [], [], [], [], []] [[], [], [], [], [], [], [], [], [], [], [], [], [], [], [], [], [], [], [], [], [], [], [], [], [], [], [], []] tMixtf (fun _ => by rfl) (fun _ => by rfl) (by kernel_rfl) (by kernel_rfl) (by rfl) (by rfl)
        (fun β => ⟨.p rfl (by intro X; exact op_move rfl),
        ⟨.p rfl (by intro X; exact op_move rfl),
        ⟨.p rfl (by intro X; rintro _ _ ⟨rfl, rfl⟩; exact op_nilCheck rfl),
        ⟨.p rfl (by intro X; rintro _ _ ⟨rfl, rfl⟩; exact op_fieldAddr (off := 0) rfl tF77_0tf),
        ⟨.p rfl (by intro X; rintro _ _ ⟨rfl, rfl⟩; exact op_fieldAddr (off := 4) rfl tF27_4tf),
        ⟨.p rfl (by intro X; rintro _ _ ⟨rfl, rfl⟩; exact op_load1 rfl tO3x (rule_ent4 (Ent.lab (l := 601) rfl says_cel0))),
        ⟨.p rfl (by intro X; rintro _ _ ⟨rfl, rfl⟩ _ _ ⟨rfl, rfl⟩; exact op_fn Try.func47 rfl rfl rfl (fn_imp (rate_any (b := b) (r := r) (ring := ringV H') (H := H') (h := h) (t := st) (tl := tl) r.long (by omega) (Ent.lab (l := 601) rfl says_cel0) hr' (fun j hj => ringV_get hj) (by omega) hb' hrO.tgt) (fun u ρ hu => (by rw [← hra] at hu; exact hu : u = .int .i64 ra ∧ ρ = [])))),
        ⟨.p rfl (by intro X; exact op_move rfl),
        ⟨.p rfl (by intro X; rintro _ _ ⟨rfl, rfl⟩; exact op_nilCheck rfl),
        ⟨.p rfl (by intro X; rintro _ _ ⟨rfl, rfl⟩; exact op_fieldAddr (off := 0) rfl tF77_0tf),
        ⟨.p rfl (by intro X; rintro _ _ ⟨rfl, rfl⟩; exact op_fieldAddr (off := 6) rfl tF27_6tf),
        ⟨.p rfl (by intro X; rintro _ _ ⟨rfl, rfl⟩; exact op_load1 rfl tO3x (rule_ent6 (Ent.lab (l := 601) rfl says_cel0))),
        ⟨.p rfl (by intro X; rintro _ _ ⟨rfl, rfl⟩ _ _ ⟨rfl, rfl⟩; exact op_lss rfl rfl),
        ⟨.p rfl (by intro X; rintro _ _ ⟨rfl, rfl⟩; exact op_move rfl),
        ⟨.w rfl rfl rfl (by rintro _ _ ⟨rfl, rfl⟩; first | rfl | (exact congrArg Value.bool (decide_eq_true (by omega))) | (exact congrArg Value.bool (decide_eq_false (by omega))) | (simp; done) | (simp; omega) | (simp [*]; done)) (by intro X; exact op_move rfl),
        ⟨.w rfl rfl rfl (by rintro _ _ ⟨rfl, rfl⟩; first | rfl | (exact congrArg Value.bool (decide_eq_true (by omega))) | (exact congrArg Value.bool (decide_eq_false (by omega))) | (simp; done) | (simp; omega) | (simp [*]; done)) (by intro X; exact op_move rfl),
        ⟨.w rfl rfl rfl (by rintro _ _ ⟨rfl, rfl⟩; first | rfl | (exact congrArg Value.bool (decide_eq_true (by omega))) | (exact congrArg Value.bool (decide_eq_false (by omega))) | (simp; done) | (simp; omega) | (simp [*]; done)) (by intro X; rintro _ _ ⟨rfl, rfl⟩; exact op_nilCheck rfl),
        ⟨.w rfl rfl rfl (by rintro _ _ ⟨rfl, rfl⟩; first | rfl | (exact congrArg Value.bool (decide_eq_true (by omega))) | (exact congrArg Value.bool (decide_eq_false (by omega))) | (simp; done) | (simp; omega) | (simp [*]; done)) (by intro X; rintro _ _ ⟨rfl, rfl⟩; exact op_fieldAddr (off := 0) rfl tF77_0tf),
        ⟨.w rfl rfl rfl (by rintro _ _ ⟨rfl, rfl⟩; first | rfl | (exact congrArg Value.bool (decide_eq_true (by omega))) | (exact congrArg Value.bool (decide_eq_false (by omega))) | (simp; done) | (simp; omega) | (simp [*]; done)) (by intro X; rintro _ _ ⟨rfl, rfl⟩; exact op_fieldAddr (off := 5) rfl tF27_5tf),
        ⟨.w rfl rfl rfl (by rintro _ _ ⟨rfl, rfl⟩; first | rfl | (exact congrArg Value.bool (decide_eq_true (by omega))) | (exact congrArg Value.bool (decide_eq_false (by omega))) | (simp; done) | (simp; omega) | (simp [*]; done)) (by intro X; rintro _ _ ⟨rfl, rfl⟩; exact op_load1 rfl tO3x (rule_ent5 (Ent.lab (l := 601) rfl says_cel0))),
        ⟨.w rfl rfl rfl (by rintro _ _ ⟨rfl, rfl⟩; first | rfl | (exact congrArg Value.bool (decide_eq_true (by omega))) | (exact congrArg Value.bool (decide_eq_false (by omega))) | (simp; done) | (simp; omega) | (simp [*]; done)) (by intro X; rintro _ _ ⟨rfl, rfl⟩ _ _ ⟨rfl, rfl⟩; exact op_fn Try.func47 rfl rfl rfl (fn_imp (rate_any (b := b) (r := r) (ring := ringV H') (H := H') (h := h) (t := st) (tl := tl) r.short (by omega) (Ent.lab (l := 601) rfl says_cel0) hr' (fun j hj => ringV_get hj) (by omega) hb' hrO.tgt) (fun u ρ hu => (by rw [← hrb] at hu; exact hu : u = .int .i64 rb ∧ ρ = [])))),
        ⟨.w rfl rfl rfl (by rintro _ _ ⟨rfl, rfl⟩; first | rfl | (exact congrArg Value.bool (decide_eq_true (by omega))) | (exact congrArg Value.bool (decide_eq_false (by omega))) | (simp; done) | (simp; omega) | (simp [*]; done)) (by intro X; exact op_move rfl),
        ⟨.w rfl rfl rfl (by rintro _ _ ⟨rfl, rfl⟩; first | rfl | (exact congrArg Value.bool (decide_eq_true (by omega))) | (exact congrArg Value.bool (decide_eq_false (by omega))) | (simp; done) | (simp; omega) | (simp [*]; done)) (by intro X; rintro _ _ ⟨rfl, rfl⟩; exact op_nilCheck rfl),
        ⟨.w rfl rfl rfl (by rintro _ _ ⟨rfl, rfl⟩; first | rfl | (exact congrArg Value.bool (decide_eq_true (by omega))) | (exact congrArg Value.bool (decide_eq_false (by omega))) | (simp; done) | (simp; omega) | (simp [*]; done)) (by intro X; rintro _ _ ⟨rfl, rfl⟩; exact op_fieldAddr (off := 0) rfl tF77_0tf),
        ⟨.w rfl rfl rfl (by rintro _ _ ⟨rfl, rfl⟩; first | rfl | (exact congrArg Value.bool (decide_eq_true (by omega))) | (exact congrArg Value.bool (decide_eq_false (by omega))) | (simp; done) | (simp; omega) | (simp [*]; done)) (by intro X; rintro _ _ ⟨rfl, rfl⟩; exact op_fieldAddr (off := 6) rfl tF27_6tf),
        ⟨.w rfl rfl rfl (by rintro _ _ ⟨rfl, rfl⟩; first | rfl | (exact congrArg Value.bool (decide_eq_true (by omega))) | (exact congrArg Value.bool (decide_eq_false (by omega))) | (simp; done) | (simp; omega) | (simp [*]; done)) (by intro X; rintro _ _ ⟨rfl, rfl⟩; exact op_load1 rfl tO3x (rule_ent6 (Ent.lab (l := 601) rfl says_cel0))),
        ⟨.w rfl rfl rfl (by rintro _ _ ⟨rfl, rfl⟩; first | rfl | (exact congrArg Value.bool (decide_eq_true (by omega))) | (exact congrArg Value.bool (decide_eq_false (by omega))) | (simp; done) | (simp; omega) | (simp [*]; done)) (by intro X; rintro _ _ ⟨rfl, rfl⟩ _ _ ⟨rfl, rfl⟩; exact op_lss rfl rfl),
        ⟨.p rfl (by intro X; rintro _ _ ⟨rfl, rfl⟩ _ _ ⟨rfl, rfl⟩; exact op_pick_f (by first | rfl | (show some (Value.bool (decide _)) = _; rw [decide_eq_true (by omega)]) | (show some (Value.bool (decide _)) = _; rw [decide_eq_false (by omega)]) | (simp [ev, lk]; done) | (simp [ev, lk]; omega) | (simp [ev, lk, *]; done)) rfl),
        trivial⟩⟩⟩⟩⟩⟩⟩⟩⟩⟩⟩⟩⟩⟩⟩⟩⟩⟩⟩⟩⟩⟩⟩⟩⟩⟩⟩⟩)
        (fun β β' => ⟨fun _ => by rfl, ⟨fun _ => by rfl, ⟨fun _ => by rfl, ⟨fun _ => by rfl, ⟨fun _ => by rfl, ⟨fun _ => by rfl, ⟨fun _ => by rfl, ⟨fun _ => by rfl, ⟨fun _ => by rfl, ⟨fun _ => by rfl, ⟨fun _ => by rfl, ⟨fun _ => by rfl, ⟨fun _ => by rfl, ⟨fun _ => by rfl, ⟨fun _ => by rfl, ⟨fun _ => by rfl, ⟨fun _ => by rfl, ⟨fun _ => by rfl, ⟨fun _ => by rfl, ⟨fun _ => by rfl, ⟨fun _ => by rfl, ⟨fun _ => by rfl, ⟨fun _ => by rfl, ⟨fun _ => by rfl, ⟨fun _ => by rfl, ⟨fun _ => by rfl, ⟨fun _ => by rfl, ⟨fun _ => by rfl, trivial⟩⟩⟩⟩⟩⟩⟩⟩⟩⟩⟩⟩⟩⟩⟩⟩⟩⟩⟩⟩⟩⟩⟩⟩⟩⟩⟩⟩) ?_
    intro β
    rintro _ _ ⟨rfl, rfl⟩ _ _ ⟨rfl, rfl⟩ _ _ ⟨rfl, rfl⟩ _ _ ⟨rfl, rfl⟩ _ _ ⟨rfl, rfl⟩ _ _ ⟨rfl, rfl⟩ _ _ ⟨rfl, rfl⟩ _ _ ⟨rfl, rfl⟩ _ _ ⟨rfl, rfl⟩ _ _ ⟨rfl, rfl⟩ _ _ ⟨rfl, rfl⟩ _ _ ⟨rfl, rfl⟩ _ _ ⟨rfl, rfl⟩ _ _ ⟨rfl, rfl⟩ _ _ ⟨rfl, rfl⟩ _ _ ⟨rfl, rfl⟩ _ _ ⟨rfl, rfl⟩ _ _ ⟨rfl, rfl⟩ _ _ ⟨rfl, rfl⟩ _ _ ⟨rfl, rfl⟩ _ _ ⟨rfl, rfl⟩ _ _ ⟨rfl, rfl⟩ _ _ ⟨rfl, rfl⟩ _ _ ⟨rfl, rfl⟩ _ _ ⟨rfl, rfl⟩ _ _ ⟨rfl, rfl⟩ _ _ ⟨rfl, rfl⟩ _ _ ⟨rfl, rfl⟩
    refine wl_norm (e' := [(0, _), (53, _)]) (.cons rfl (.cons rfl (.nil _))) (by dsimp only [cond_false, cond_true, List.nil_append, List.cons_append]) ?_
    refine wl_nil (st_tn (w_cond_d rfl (fun hc53 => ?_) (fun hc53 => ?_)))
    · -- c53.t
      refine w_seq (w_region (zm rfl (zm rfl (zd rfl (op_nilCheck rfl) (zd rfl (op_fieldAddr (off := 1033) rfl tF77_3tf) (wl_op0 [601] rfl rfl rfl (op_store (b := b) (o := 0 + 1033) rfl rfl tZ3x (by rfl) (by rfl) (by rw [G_len hr']; omega)) ?_))))))
      rintro _ _ ⟨rfl, rfl⟩
      refine zd rfl (op_nilCheck rfl) (zd rfl (op_fieldAddr (off := 1034) rfl tF77_4tf) (wl_op0 [601] rfl rfl rfl (op_store (b := b) (o := 0 + 1034) rfl rfl tZ3x (by rfl) (by rfl) (by rw [setsL_len, G_len hr']; omega)) ?_))
      rintro _ _ ⟨rfl, rfl⟩
      refine wl_nil (st_tn (w_seq (w_wk 601 (cel b (encG r (ringV H') (H'.length : Nat) 0 0 tl) 77) rfl (fun _ hh => by rw [← (G_set3 (h := 0) (t := st) hr' 0).2.2, ← (G_set3 (h := h) (t := st) hr' 0).2.1]; exact hh) ?_)))
      refine w_region (zm rfl (zd rfl (op_nilCheck rfl) (zd rfl (op_fieldAddr (off := 1034) rfl tF77_4tf) (zd rfl (op_load1 rfl tO3x (state_ent (Ent.lab (l := 601) rfl says_cel0) hr')) (za rfl (wl_nil (st_tn (w_ret (st_tr (st_ret (vs := [_]) [601] Try.results26 ⟨rfl, trivial⟩ rfl ?_))))))))))
      refine ⟨[(601, _)], rfl, ?_⟩
      have hq : quietP r H' := by unfold quietP; rw [← hra, ← hrb]; first | exact .inl hA | exact .inr hc53
      unfold stateN heldN; rw [if_pos hq, if_pos hq]; exact ⟨rfl, rfl⟩
    · -- c53.f
      refine w_skip (st_tn (w_seq (w_region (zm rfl (zd rfl (op_nilCheck rfl) (zd rfl (op_fieldAddr (off := 1033) rfl tF77_3tf) (zd rfl (op_load1 rfl tO3x (held_ent (Ent.lab (l := 601) rfl says_cel0) hr')) (zd rfl (op_add' rfl rfl (by omega)) ?_))))))))
      refine zd rfl (op_nilCheck rfl) (zd rfl (op_fieldAddr (off := 1033) rfl tF77_3tf) (wl_op0 [601] rfl rfl rfl (op_store (b := b) (o := 0 + 1033) rfl rfl tZ3x (by rfl) (by rfl) (by rw [G_len hr']; omega)) ?_))
      rintro _ _ ⟨rfl, rfl⟩
      refine wl_nil (st_tn (w_seq (w_wk 601 (cel b (encG r (ringV H') (H'.length : Nat) (h + 1) st tl) 77) rfl (fun _ hh => by rw [← (G_set3 (h := h) (t := st) hr' (h + 1)).2.1]; exact hh) ?_)))
      refine w_region (zm rfl (zd rfl (op_nilCheck rfl) (zd rfl (op_fieldAddr (off := 1034) rfl tF77_4tf) (wl_op0 [601] rfl rfl rfl (op_store (b := b) (o := 0 + 1034) rfl rfl tZ3x (by rfl) (by rfl) (by rw [G_len hr']; omega)) ?_))))
      rintro _ _ ⟨rfl, rfl⟩
      refine wl_nil (st_tn (w_seq (w_seq (w_wk 601 (cel b (encG r (ringV H') (H'.length : Nat) (h + 1) 1 tl) 77) rfl (fun _ hh => by rw [← (G_set3 (h := h + 1) (t := st) hr' 1).2.2]; exact hh) ?_))))
      refine w_drawW (fun β => [⟨74, [], [], [], noW (_), false, [], []⟩, ⟨75, [0], [], [], noW (_), false, [], []⟩, ⟨76, [1], [], [], noW (_), false, [], []⟩, ⟨77, [2], [], [], noW (_), false, [], []⟩, ⟨78, [], [], [], noW (_), false, [], []⟩, ⟨79, [4], [], [], noW (_), false, [], []⟩, ⟨80, [5], [], [], noW (_), false, [], []⟩, ⟨81, [6], [], [], noW (_), false, [], []⟩, ⟨82, [7], [], [], noW (_), false, [], []⟩]) [] [0] [⟨74, [], [], false, [], []⟩, ⟨75, [0], [], false, [], []⟩, ⟨76, [1], [], false, [], []⟩, ⟨77, [2], [], false, [], []⟩, ⟨78, [], [], false, [], []⟩, ⟨79, [4], [], false, [], []⟩, ⟨80, [5], [], false, [], []⟩, ⟨81, [6], [], false, [], []⟩, ⟨82, [7], [], false, [], []⟩] [[], [], [], [], [], [], [], [], []] [[], [], [], [], [], [], [], [], []] tMixtf (fun _ => by rfl) (fun _ => by rfl) (by kernel_rfl) (by kernel_rfl) (by rfl) (by rfl)
          (fun β => ⟨.p rfl (by intro X; exact op_move rfl),
          ⟨.p rfl (by intro X; rintro _ _ ⟨rfl, rfl⟩; exact op_nilCheck rfl),
          ⟨.p rfl (by intro X; rintro _ _ ⟨rfl, rfl⟩; exact op_fieldAddr (off := 1033) rfl tF77_3tf),
          ⟨.p rfl (by intro X; rintro _ _ ⟨rfl, rfl⟩; exact op_load1 rfl tO3x (held_ent (Ent.lab (l := 601) rfl says_cel0) hr')),
          ⟨.p rfl (by intro X; exact op_move rfl),
          ⟨.p rfl (by intro X; rintro _ _ ⟨rfl, rfl⟩; exact op_nilCheck rfl),
          ⟨.p rfl (by intro X; rintro _ _ ⟨rfl, rfl⟩; exact op_fieldAddr (off := 0) rfl tF77_0tf),
          ⟨.p rfl (by intro X; rintro _ _ ⟨rfl, rfl⟩; exact op_fieldAddr (off := 7) rfl tF27_7tf),
          ⟨.p rfl (by intro X; rintro _ _ ⟨rfl, rfl⟩; exact op_load1 rfl tO3x (rule_ent7 (Ent.lab (l := 601) rfl says_cel0))),
          trivial⟩⟩⟩⟩⟩⟩⟩⟩⟩)
          (fun β β' => ⟨fun _ => by rfl, ⟨fun _ => by rfl, ⟨fun _ => by rfl, ⟨fun _ => by rfl, ⟨fun _ => by rfl, ⟨fun _ => by rfl, ⟨fun _ => by rfl, ⟨fun _ => by rfl, ⟨fun _ => by rfl, trivial⟩⟩⟩⟩⟩⟩⟩⟩⟩) ?_
      intro β
      rintro _ _ ⟨rfl, rfl⟩ _ _ ⟨rfl, rfl⟩ _ _ ⟨rfl, rfl⟩ _ _ ⟨rfl, rfl⟩ _ _ ⟨rfl, rfl⟩ _ _ ⟨rfl, rfl⟩ _ _ ⟨rfl, rfl⟩ _ _ ⟨rfl, rfl⟩ _ _ ⟨rfl, rfl⟩
      refine wl_norm (e' := [(0, _), (77, _), (82, _)]) (.cons rfl (.cons rfl (.cons rfl (.nil _)))) (by dsimp only [cond_false, cond_true, List.nil_append, List.cons_append]) ?_
      refine zd rfl (op_gtr rfl rfl) (wl_nil (st_tn (w_cond_d rfl (fun hc83 => ?_) (fun hc83 => ?_))))
      · -- c83.t
        refine w_region (zm rfl (zd rfl (op_nilCheck rfl) (zd rfl (op_fieldAddr (off := 1034) rfl tF77_4tf) (wl_op0 [601] rfl rfl rfl (op_store (b := b) (o := 0 + 1034) rfl rfl tZ3x (by rfl) (by rfl) (by rw [G_len hr']; omega)) ?_))))
        rintro _ _ ⟨rfl, rfl⟩
        refine wl_nil (st_tn (w_seq (w_wk 601 (cel b (encG r (ringV H') (H'.length : Nat) (h + 1) 2 tl) 77) rfl (fun _ hh => by rw [← (G_set3 (h := h + 1) (t := 1) hr' 2).2.2]; exact hh) ?_)))
        refine w_region (zm rfl (zd rfl (op_nilCheck rfl) (zd rfl (op_fieldAddr (off := 1034) rfl tF77_4tf) (zd rfl (op_load1 rfl tO3x (state_ent (Ent.lab (l := 601) rfl says_cel0) hr')) (za rfl (wl_nil (st_tn (w_ret (st_ret (vs := [_]) [601] Try.results26 ⟨rfl, trivial⟩ rfl ?_)))))))))
        refine ⟨[(601, _)], rfl, ?_⟩
        have hq : ¬ quietP r H' := by unfold quietP; rw [← hra, ← hrb]; exact fun hq => hq.elim hA hc53
        unfold stateN heldN; rw [if_neg hq, if_neg hq, if_pos hc83]; exact ⟨rfl, rfl⟩
      · -- c83.f
        refine w_skip (st_tn (w_seq (w_region (zm rfl (zd rfl (op_nilCheck rfl) (zd rfl (op_fieldAddr (off := 1034) rfl tF77_4tf) (zd rfl (op_load1 rfl tO3x (state_ent (Ent.lab (l := 601) rfl says_cel0) hr')) (za rfl (wl_nil (st_tn (w_ret (st_ret (vs := [_]) [601] Try.results26 ⟨rfl, trivial⟩ rfl ?_))))))))))))
        refine ⟨[(601, _)], rfl, ?_⟩
        have hq : ¬ quietP r H' := by unfold quietP; rw [← hra, ← hrb]; exact fun hq => hq.elim hA hc53
        unfold stateN heldN; rw [if_neg hq, if_neg hq, if_neg hc83]; exact ⟨rfl, rfl⟩
end Go.Proofs.Ytecmigildpkigaa
namespace Go.Proofs.Ytecmigildpkigaa
open Go Go.SL Go.RowKit
set_option linter.unusedVariables false
set_option linter.unusedSimpArgs false
theorem tL30_1tg : zerosB Try.prog 30 3 1 1 = some [Value.int .i64 0] := by kernel_rfl
theorem tMixtg : Try.prog.follows .mixedOrders = true := by kernel_rfl
theorem tP30tg : appB Try.prog 30 3 1 8 = true := by kernel_rfl
theorem tS30tg : sliceB Try.prog 30 3 1 = true := by kernel_rfl
def heldL (r : RuV) (l : RingV) : Nat → Int
  | 0 => 0
  | i + 1 => heldN r (l.take (i + 1)) (heldL r l i)
def stL (r : RuV) (l : RingV) (i : Nat) : Int := stateN r (l.take (i + 1)) (heldL r l i)
theorem heldL_bd (r : RuV) (l : RingV) : ∀ i, 0 ≤ heldL r l i ∧ heldL r l i ≤ i
  | 0 => by simp [heldL]
  | i + 1 => by
    have ih := heldL_bd r l i
    unfold heldL heldN
    split <;> omega
def statesL (r : RuV) (l : RingV) (n : Nat) : List Int := (List.range n).map (stL r l)
theorem statesL_succ (r : RuV) (l : RingV) (n : Nat) : statesL r l (n + 1) = statesL r l n ++ [stL r l n] := by unfold statesL; rw [List.range_succ, List.map_append]; rfl
theorem statesL_len (r : RuV) (l : RingV) (n : Nat) : (statesL r l n).length = n := by unfold statesL; simp
def PairB (l : RingV) : Prop := l.length ≤ 100 ∧ ∀ p ∈ l, (0 ≤ p.1 ∧ p.1 ≤ 1000) ∧ 0 ≤ p.2 ∧ p.2 ≤ 1000
set_option maxHeartbeats 1000000 in
set_option maxRecDepth 100000 in
theorem evaluate_any {σ : World} {F : List Res} {b : Nat} {r : RuV} {tl : List Value} {a1 a2 : Option Addr} {c1 c2 : Nat} {l : RingV} (lab : Nat) (hrO : RuOk r) (hl : PairB l) (g1 : Sl σ F SL.encZ 1 (.slice a1 (l.map Prod.fst).length c1) (l.map Prod.fst)) (g2 : Sl σ F SL.encZ 1 (.slice a2 (l.map Prod.snd).length c2) (l.map Prod.snd)) :
    FnT Try.prog σ F 25 [.slice a1 (l.map Prod.fst).length c1, .slice a2 (l.map Prod.snd).length c2, .func (.func 26) #[.pointer (some ⟨b, 0, none⟩)] #[]] [(601, cel b (encG r (ringV []) 0 0 0 tl) 77)] (fun u ρ => ∃ (a : Option Addr) (c : Nat), u = .slice a (statesL r l l.length).length c ∧ ρ = [(lab, slW 3 SL.encZ 1 (.slice a (statesL r l l.length).length c) (statesL r l l.length))]) := by
  refine fn_of 29 Try.func25 rfl Try.ntmps25 rfl ?_
  obtain ⟨hl1, hl2⟩ := hl
  have hm1 : (l.map Prod.fst).length = l.length := List.length_map ..
  have hm2 : (l.map Prod.snd).length = l.length := List.length_map ..
  refine w_seq (w_region (za rfl (wl_nil (st_tn (w_seq (w_region (za rfl (wl_nil (st_tn (w_seq (w_seq (w_region (zm rfl ?_)))))))))))))
  refine zd rfl (op_lenT rfl tS30tg (Sl.ent (g1.app _))) (zm rfl (wl_nil (st_tn (w_block (w_emp 7 (slO_nil 3 1) ?_)))))
  refine w_loopQ (X := List Int × Option Addr × Nat × Nat × Int) (fun z => z.2.2.2.1 ≤ l.length ∧ z.1 = statesL r l z.2.2.2.1) (fun z => [(7, .slice (z.2.1) (z.1).length (z.2.2.1)), (11, .int .i64 (z.2.2.2.1))]) (fun z => [(7, slW 3 SL.encZ 1 (.slice (z.2.1) (z.1).length (z.2.2.1)) (z.1)), (601, cel b (encG r (ringV (l.take (z.2.2.2.1))) ((l.take (z.2.2.2.1)).length : Nat) (heldL r l (z.2.2.2.1)) (z.2.2.2.2) tl) 77)]) (fun z => l.length - z.2.2.2.1) (([], none, 0, 0, 0)) [(0, _), (1, _), (2, _), (10, _)] [] [7, 601] rfl (rfl) (.cons rfl (.cons rfl (.nil _))) (.cons rfl (.cons rfl (.cons rfl (.cons rfl (.nil _))))) (by
      try dsimp only
      exact ⟨Nat.zero_le _, rfl⟩) ?_
  rintro ⟨out, a_out, c_out, i, st⟩ ⟨hi, ho⟩
  refine w_norm2 (by dsimp only [List.cons_append, List.nil_append]) (by dsimp only [List.cons_append, List.nil_append]) ?_
  try dsimp only at hi ho ⊢
  refine w_seq (w_region (zd rfl (op_lss rfl rfl) (wl_nil (st_tn (w_seq (w_cond_d rfl (fun hc12 => ?_) (fun hc12 => ?_)))))))
  · -- c12.t
    obtain ⟨p, hp⟩ := getE (l := l) (i := i) (by omega)
    have hpb := hl2 p (List.mem_of_getElem? hp)
    have h1 : (l.map Prod.fst)[i]? = some p.1 := by rw [List.getElem?_map, hp]; rfl
    have h2 : (l.map Prod.snd)[i]? = some p.2 := by rw [List.getElem?_map, hp]; rfl
    have hhb := heldL_bd r l i
    have hol : out.length = i := by rw [ho, statesL_len]
    have htb : ∀ q ∈ l.take i, (0 ≤ q.1 ∧ q.1 ≤ 1000) ∧ 0 ≤ q.2 ∧ q.2 ≤ 1000 := fun q hq => hl2 q (List.mem_of_mem_take hq)
    have htl : (l.take i).length ≤ 100 := by rw [List.length_take]; omega
    refine w_skip (st_tn (w_seq (w_block (w_seq (w_region (zm rfl (za rfl (wl_nil (st_tn ?_)))))))))
    refine w_drawW (fun β => [⟨14, [], [], [], noW (_), false, [], []⟩, ⟨15, [], [], [], noW (_), false, [], []⟩, ⟨16, [], [], [], noW (_), false, [], []⟩, ⟨17, [], [], [], noW (_), false, [], []⟩, ⟨18, [2, 3], [], [], noW (_), false, [], []⟩, ⟨19, [4], [], [], noW (_), false, [], []⟩, ⟨20, [], [], [], noW (_), false, [], []⟩, ⟨21, [], [], [], noW (_), false, [], []⟩, ⟨22, [6, 7], [], [], noW (_), false, [], []⟩, ⟨23, [8], [], [], noW (_), false, [], []⟩, ⟨24, [1, 5, 9], [], [(601, _)], noW (_), false, [], []⟩, ⟨25, [10], [], [], fun w => DetW _ _, false, [], []⟩]) [601] [7, 2, 0, 8, 1] [⟨14, [], [], false, [], []⟩, ⟨15, [], [], false, [], []⟩, ⟨16, [], [], false, [], []⟩, ⟨17, [], [], false, [], []⟩, ⟨18, [2, 3], [], false, [], []⟩, ⟨19, [4], [], false, [], []⟩, ⟨20, [], [], false, [], []⟩, ⟨21, [], [], false, [], []⟩, ⟨22, [6, 7], [], false, [], []⟩, ⟨23, [8], [], false, [], []⟩, ⟨24, [1, 5, 9], [], false, [], []⟩, ⟨25, [10], [], false, [], []⟩] [[], [], [], [], [], [], [], [], [], [], [], []] [[], [], [], [], [], [], [], [], [], [], [(601, _)], []] tMixtg (fun _ => by rfl) (fun _ => by rfl) (by kernel_rfl) (by kernel_rfl) (by rfl) (by rfl)
        (fun β => ⟨.p rfl (by intro X; exact op_move rfl),
        ⟨.p rfl (by intro X; exact op_move rfl),
        ⟨.p rfl (by intro X; exact op_move rfl),
        ⟨.p rfl (by intro X; exact op_move rfl),
        ⟨.p rfl (by intro X; rintro _ _ ⟨rfl, rfl⟩ _ _ ⟨rfl, rfl⟩; exact op_idx rfl rfl tS30tg (Sl.ent (Sl.app (Sl.app g1 _) _)) (by omega)),
        ⟨.p rfl (by intro X; rintro _ _ ⟨rfl, rfl⟩; exact op_ldx rfl tO3x (Sl.app (Sl.app g1 _) _) h1 (by rfl)),
        ⟨.p rfl (by intro X; exact op_move rfl),
        ⟨.p rfl (by intro X; exact op_move rfl),
        ⟨.p rfl (by intro X; rintro _ _ ⟨rfl, rfl⟩ _ _ ⟨rfl, rfl⟩; exact op_idx rfl rfl tS30tg (Sl.ent (Sl.app (Sl.app g2 _) _)) (by omega)),
        ⟨.p rfl (by intro X; rintro _ _ ⟨rfl, rfl⟩; exact op_ldx rfl tO3x (Sl.app (Sl.app g2 _) _) h2 (by rfl)),
        ⟨.p rfl (by intro X; rintro _ _ ⟨rfl, rfl⟩ _ _ ⟨rfl, rfl⟩ _ _ ⟨rfl, rfl⟩; exact op_fnv (fs := [.pointer (some ⟨b, 0, none⟩)]) (cs := []) Try.func26 rfl rfl rfl rfl (fn_imp (observe_any (b := b) (tl := tl) (st := st) (h := heldL r l i) (H := l.take i) p.1 p.2 hrO htl htb hpb.1 hpb.2 (by omega)) (fun u ρ hu => (by rw [← take_snoc hp] at hu; exact hu : u = .int .i64 (stL r l i) ∧ ρ = [(601, cel b (encG r (ringV (l.take (i + 1))) ((l.take (i + 1)).length : Nat) (heldL r l (i + 1)) (stL r l i) tl) 77)])))),
        ⟨.px rfl (by intro X; rintro _ _ ⟨rfl, rfl⟩; refine OpT.mono (op_buildSlice (enc := SL.encZ) (l := [stL r l i]) (lab := 25) tL30_1tg rfl rfl (fun _ => rfl) rfl) ?_; rintro _ _ ⟨a25, c25, rfl, rfl⟩; obtain ⟨w, rfl, rfl⟩ : ∃ w : Wt, w.a = a25 ∧ w.c = c25 := ⟨{ a := a25, c := c25 }, rfl, rfl⟩; exact ⟨w, rfl, rfl⟩),
        trivial⟩⟩⟩⟩⟩⟩⟩⟩⟩⟩⟩⟩)
        (fun β β' => ⟨fun _ => by rfl, ⟨fun _ => by rfl, ⟨fun _ => by rfl, ⟨fun _ => by rfl, ⟨fun _ => by rfl, ⟨fun _ => by rfl, ⟨fun _ => by rfl, ⟨fun _ => by rfl, ⟨fun _ => by rfl, ⟨fun _ => by rfl, ⟨fun _ => by rfl, ⟨fun _ => by rfl, trivial⟩⟩⟩⟩⟩⟩⟩⟩⟩⟩⟩⟩) ?_
    intro β
    rintro _ _ ⟨rfl, rfl⟩ _ _ ⟨rfl, rfl⟩ _ _ ⟨rfl, rfl⟩ _ _ ⟨rfl, rfl⟩ _ _ ⟨rfl, rfl⟩ _ _ ⟨rfl, rfl⟩ _ _ ⟨rfl, rfl⟩ _ _ ⟨rfl, rfl⟩ _ _ ⟨rfl, rfl⟩ _ _ ⟨rfl, rfl⟩ _ _ ⟨rfl, rfl⟩ _ _ ⟨rfl, rfl⟩
    generalize (β 11).a = a25
    generalize (β 11).c = c25
    refine wl_norm (e' := [(0, _), (1, _), (2, _), (10, _), (11, _), (14, _), (25, _)]) (.cons rfl (.cons rfl (.cons rfl (.cons rfl (.cons rfl (.cons rfl (.cons rfl (.nil _)))))))) (by dsimp only [cond_false, cond_true, List.nil_append, List.cons_append]) ?_
    refine wl_op [7] rfl rfl rfl rfl (op_append (lab := 7) (lab' := 26) rfl rfl tP30tg SL.enc1Z (Sl.lab 25 rfl (by simp [maxLen])) (by first | omega | (simp; done) | (simp; omega) | (simp [*]; omega)) (by first | omega | (simp; done) | (simp; omega) | (simp [*]; omega))) ?_
    rintro _ _ ⟨a26, c26, rfl, rfl⟩
    refine za rfl (wl_nil (st_bn (st_tn (w_region (zd rfl (op_add' rfl rfl (by omega)) ?_)))))
    refine zm rfl (wl_nil ?_)
    refine st_roundQ (x := (out, a_out, c_out, i, st)) ((_, _, _, i + 1, stL r l i)) [26, 601] rfl (rfl) (.cons rfl (.cons rfl (.nil _))) (.cons rfl (.cons rfl (.cons rfl (.cons rfl (.nil _))))) (by
        try dsimp only
        exact ⟨by omega, by rw [statesL_succ, ← ho]⟩) (by
        try dsimp only
        omega)
  · -- c12.f
    refine w_exit (st_te ?_)
    refine st_te ?_
    refine st_be (st_tn (w_seq (w_region (zm rfl (za rfl (wl_nil (st_tn (w_ret (st_ret (vs := [_]) [7] Try.results25 ⟨rfl, trivial⟩ rfl ?_)))))))))
    refine ⟨[(lab, _)], rfl, ?_⟩
    have hin : i = l.length := by omega
    rw [ho, hin]; exact ⟨_, _, rfl, rfl⟩
end Go.Proofs.Ytecmigildpkigaa
namespace Go.Proofs.Ytecmigildpkigaa
open Go Go.SL Go.RowKit
set_option linter.unusedVariables false
set_option linter.unusedSimpArgs false
theorem tA27th : aggB Try.prog 27 8 = true := by kernel_rfl
theorem tA32th : aggB Try.prog 32 7 = true := by kernel_rfl
theorem tF32_5th : fieldB Try.prog 32 5 6 = true := by kernel_rfl
theorem tO30th : oneB Try.prog 30 = true := by kernel_rfl
def ruZ : RuV := ⟨.empty, .empty, .empty, 0, 0, 0, 0, 0⟩
def pl77 : List (Nat × Nat) := [(0, 8), (8, 1024), (1032, 1), (1033, 1), (1034, 1)]
theorem tB77x : placesB Try.prog 77 = some (pl77, encG ruZ (ringV []) 0 0 0 []) := by kernel_rfl
theorem G_setRule (r : RuV) {ring : RingV} {n h t : Int} {tl : List Value} : setsL (encG ruZ ring n h t tl) 0 (encRu r) = encG r ring n h t tl := by
  have := setsL_mid (encRu r) [] (encRu ruZ) (flatR ring ++ (.int .i64 n :: .int .i64 h :: .int .i64 t :: tl)) rfl
  exact this
theorem build77 (r : RuV) : fillS pl77 (encG ruZ (ringV []) 0 0 0 []) [(0, .agg (encRu r).toArray)] = some (encG r (ringV []) 0 0 0 []) := by
  unfold fillS
  show (bif Nat.beq 8 8 && Nat.ble (0 + 8) (encG ruZ (ringV []) 0 0 0 []).length then fillS pl77 (setsL (encG ruZ (ringV []) 0 0 0 []) 0 (encRu r)) [] else none) = _
  rw [G_len (ringV_len (by simp)), G_setRule]
  rfl
set_option maxHeartbeats 1000000 in
set_option maxRecDepth 100000 in
theorem states_any {σ : World} {F : List Res} {r : RuV} {x y : SeV} {l : RingV} (lab : Nat) (hc : CinOk r x y) (hl : PairB l) (hx1 : x.vals = l.map Prod.fst) (hy1 : y.vals = l.map Prod.snd) (gx : Sl σ F SL.encZ 1 (.slice x.a x.vals.length x.c) x.vals) (gy : Sl σ F SL.encZ 1 (.slice y.a y.vals.length y.c) y.vals) :
    FnT Try.prog σ F 7 [.agg (encRu r).toArray, .agg (encSe x).toArray, .agg (encSe y).toArray] [] (fun u ρ => ∃ (a : Option Addr) (c : Nat), u = .tuple #[.slice a (statesL r l l.length).length c, .int .i64 0] ∧ ρ = [(lab, slW 3 SL.encZ 1 (.slice a (statesL r l l.length).length c) (statesL r l l.length))]) := by
  refine fn_of 27 Try.func7 rfl Try.ntmps7 rfl ?_
  have hev : ∀ {X : List Res} {b : Nat}, FnT Try.prog σ (X ++ F) 25 [.slice x.a x.vals.length x.c, .slice y.a y.vals.length y.c, .func (.func 26) #[.pointer (some ⟨b, 0, none⟩)] #[]] [(601, cel b (encG r (ringV []) 0 0 0 []) 77)] (fun u ρ => ∃ (a : Option Addr) (c : Nat), u = .slice a (statesL r l l.length).length c ∧ ρ = [(26, slW 3 SL.encZ 1 (.slice a (statesL r l l.length).length c) (statesL r l l.length))]) := fun {X b} => by
    have h9 := evaluate_any (σ := σ) (F := X ++ F) (b := b) (tl := []) (a1 := x.a) (c1 := x.c) (a2 := y.a) (c2 := y.c) 26 hc.ro hl (by rw [← hx1]; exact gx.app X) (by rw [← hy1]; exact gy.app X)
    rw [← hx1, ← hy1] at h9
    exact h9
  refine w_seq (w_region (wl_op [] rfl rfl rfl rfl (op_box (T := 27) (l := 3) rfl) ?_))
  rintro _ _ ⟨b3, rfl, rfl⟩
  refine wl_op [] rfl rfl rfl rfl (op_box (T := 32) (l := 4) rfl) ?_
  rintro _ _ ⟨b4, rfl, rfl⟩
  refine wl_op [] rfl rfl rfl rfl (op_box (T := 32) (l := 5) rfl) ?_
  rintro _ _ ⟨b5, rfl, rfl⟩
  refine za rfl (za rfl (wl_nil (st_tn (w_seq (w_seq (w_region (zd rfl (op_loadA rfl tA27th (Ent.lab (l := 3) rfl (says_cel 0)) (Nat.le_of_ble_eq_true rfl)) (zd rfl (op_loadA rfl tA32th (Ent.lab (l := 4) rfl (says_cel 0)) (Nat.le_of_ble_eq_true rfl)) (zd rfl (op_loadA rfl tA32th (Ent.lab (l := 5) rfl (says_cel 0)) (Nat.le_of_ble_eq_true rfl)) (zd rfl (op_fn Try.func24 rfl rfl rfl (cin_ok hc (gx.app _) (gy.app _))) (za rfl (wl_nil (st_tn ?_)))))))))))))
  refine w_seq (w_region (zm rfl (zd rfl (op_val (v' := .bool false) (by rfl) (op_neq rfl rfl)) ?_)))
  refine wl_nil (st_tn (w_cond_f (rfl) ?_))
  refine w_skip (st_tn (w_seq (w_region (zd rfl (op_loadA rfl tA27th (Ent.lab (l := 3) rfl (says_cel 0)) (Nat.le_of_ble_eq_true rfl)) (zd rfl (op_build tB77x rfl (build77 r)) (wl_op [] rfl rfl rfl rfl (op_box (T := 77) (l := 19) rfl) ?_))))))
  rintro _ _ ⟨b19, rfl, rfl⟩
  refine za rfl (wl_nil (st_tn (w_seq (w_cls [19] (A := [(19, cel b19 (encG r (ringV []) 0 0 0 []) 77)]) (C := [(601, cel b19 (encG r (ringV []) 0 0 0 []) 77)]) (fun F w h => h) rfl ?_))))
  refine w_region (zd rfl (op_fieldAddr (off := 6) rfl tF32_5th) (zd rfl (op_load1 rfl tO30th (Ent.lab (l := 4) rfl (says_cel 6))) (zd rfl (op_fieldAddr (off := 6) rfl tF32_5th) (zd rfl (op_load1 rfl tO30th (Ent.lab (l := 5) rfl (says_cel 6))) (zm rfl (zd rfl (op_makeFunc rfl rfl) (wl_op [601] rfl rfl rfl rfl (op_fn Try.func25 rfl rfl rfl hev) ?_)))))))
  rintro _ _ ⟨a26, c26, rfl, rfl⟩
  refine za rfl (za rfl (wl_nil (st_tn (w_ret (st_ret (vs := [_, _]) [26] Try.results7 ⟨rfl, ⟨rfl, trivial⟩⟩ rfl ?_)))))
  refine ⟨[(lab, _)], rfl, ?_⟩
  exact ⟨_, _, rfl, rfl⟩
end Go.Proofs.Ytecmigildpkigaa
namespace Go.Proofs.Ytecmigildpkigaa
open Go Go.SL Go.RowKit
set_option linter.unusedVariables false
set_option linter.unusedSimpArgs false
theorem tA27ti : aggB Try.prog 27 8 = true := by kernel_rfl
theorem tA32ti : aggB Try.prog 32 7 = true := by kernel_rfl
theorem tB27ti : placesB Try.prog 27 = some ([(0, 1), (1, 1), (2, 1), (3, 1), (4, 1), (5, 1), (6, 1), (7, 1)], [Value.string .empty, Value.string .empty, Value.string .empty, Value.int .i64 0, Value.int .i64 0, Value.int .i64 0, Value.int .i64 0, Value.int .i64 0]) := by kernel_rfl
theorem tB32ti : placesB Try.prog 32 = some ([(0, 1), (1, 1), (2, 1), (3, 2), (5, 1), (6, 1)], [Value.string .empty, Value.string .empty, Value.int .i64 0, Value.int .i64 0, Value.int .i64 0, Value.int .i64 0, Value.slice none 0 0]) := by kernel_rfl
theorem tF24_0ti : fieldB Try.prog 24 0 0 = true := by kernel_rfl
theorem tF24_1ti : fieldB Try.prog 24 1 1 = true := by kernel_rfl
theorem tF24_2ti : fieldB Try.prog 24 2 2 = true := by kernel_rfl
theorem tF24_3ti : fieldB Try.prog 24 3 3 = true := by kernel_rfl
theorem tF24_4ti : fieldB Try.prog 24 4 4 = true := by kernel_rfl
theorem tF24_5ti : fieldB Try.prog 24 5 5 = true := by kernel_rfl
theorem tF27_4ti : fieldB Try.prog 27 4 4 = true := by kernel_rfl
theorem tF27_5ti : fieldB Try.prog 27 5 5 = true := by kernel_rfl
theorem tF32_5ti : fieldB Try.prog 32 5 6 = true := by kernel_rfl
theorem tL30_1ti : zerosB Try.prog 30 3 1 1 = some [Value.int .i64 0] := by kernel_rfl
theorem tMixti : Try.prog.follows .mixedOrders = true := by kernel_rfl
theorem tN27ti : (Try.prog.info? 27).bind (·.zero) = some (Value.agg #[Value.string .empty, Value.string .empty, Value.string .empty, Value.int .i64 0, Value.int .i64 0, Value.int .i64 0, Value.int .i64 0, Value.int .i64 0]) := by kernel_rfl
theorem tN32ti : (Try.prog.info? 32).bind (·.zero) = some (Value.agg #[Value.string .empty, Value.string .empty, Value.int .i64 0, Value.int .i64 0, Value.int .i64 0, Value.int .i64 0, Value.slice none 0 0]) := by kernel_rfl
theorem tO22ti : oneB Try.prog 22 = true := by kernel_rfl
theorem tO3ti : oneB Try.prog 3 = true := by kernel_rfl
theorem tO30ti : oneB Try.prog 30 = true := by kernel_rfl
theorem tO5ti : oneB Try.prog 5 = true := by kernel_rfl
theorem tP30ti : appB Try.prog 30 3 1 8 = true := by kernel_rfl
theorem tR72ti : arrB Try.prog 72 2 1 = true := by kernel_rfl
theorem tS22ti : sliceB Try.prog 22 72 2 = true := by kernel_rfl
theorem tZ27ti : (Try.prog.info? 27).map (·.size) = some 8 := by kernel_rfl
theorem tZ3ti : (Try.prog.info? 3).map (·.size) = some 1 := by kernel_rfl
theorem tZ30ti : (Try.prog.info? 30).map (·.size) = some 1 := by kernel_rfl
theorem tZ32ti : (Try.prog.info? 32).map (·.size) = some 7 := by kernel_rfl
def encP8 (p : Int × Int) : List Value := [.int .u8 p.1, .int .u8 p.2]
structure LoadV where
  a : Option Addr
  c : Nat
  slots : RingV
  tg : Int
  lg : Int
  sh : Int
  br : Int
  dl : Int
abbrev ldV (x : LoadV) : Value := .agg #[.slice x.a x.slots.length x.c, .int .u8 x.tg, .int .u8 x.lg, .int .u8 x.sh, .int .u8 x.br, .int .u8 x.dl]
abbrev B8 (x : Int) : Prop := 0 ≤ x ∧ x ≤ 255
structure LoadB (x : LoadV) : Prop where
  s1 : ∀ p ∈ x.slots, B8 p.1 ∧ B8 p.2
  tg : B8 x.tg
  lg : B8 x.lg
  sh : B8 x.sh
  br : B8 x.br
  dl : B8 x.dl
def pairV (p : Int × Int) : Int × Int := (min (p.1 % 32) p.2, p.1 % 32)
def pairsV (x : LoadV) : RingV := (x.slots.take 24).map pairV
def ruleV (x : LoadV) : RuV := ⟨⟨#[114]⟩, ⟨#[115]⟩, ⟨#[]⟩, 900000 + 1000 * (x.tg % 100), 1 + x.sh % 4 + x.lg % 6, 1 + x.sh % 4, 1 + 20 * x.br, x.dl % 4⟩
def errV (x : LoadV) (a : Option Addr) (c : Nat) : SeV := ⟨⟨#[115]⟩, ⟨#[]⟩, 2, 0, 0, 100, a, c, (pairsV x).map Prod.fst⟩
def traV (x : LoadV) (a : Option Addr) (c : Nat) : SeV := ⟨⟨#[115]⟩, ⟨#[]⟩, 1, 0, 0, 100, a, c, (pairsV x).map Prod.snd⟩
set_option maxHeartbeats 3000000 in
set_option maxRecDepth 100000 in
theorem loaded_any {σ : World} {F : List Res} {x : LoadV} (lab1 lab2 : Nat) (hB : LoadB x) (g : Sl σ F encP8 2 (.slice x.a x.slots.length x.c) x.slots) :
    FnT Try.prog σ F 6 [ldV x] [] (fun u ρ => ∃ (a1 a2 : Option Addr) (c1 c2 : Nat), u = .tuple #[.agg (encRu (ruleV x)).toArray, .agg (encSe (errV x a1 c1)).toArray, .agg (encSe (traV x a2 c2)).toArray] ∧ ρ = [(lab1, slW 3 SL.encZ 1 (.slice a1 ((pairsV x).map Prod.fst).length c1) ((pairsV x).map Prod.fst)), (lab2, slW 3 SL.encZ 1 (.slice a2 ((pairsV x).map Prod.snd).length c2) ((pairsV x).map Prod.snd))]) := by
  refine fn_of 84 Try.func6 rfl Try.ntmps6 rfl ?_
  have hle := g.i64
  have h1 := hB.tg
  have h2 := hB.lg
  have h3 := hB.sh
  have h4 := hB.br
  have h5 := hB.dl
  refine w_seq (w_region (wl_op [] rfl rfl rfl rfl (op_box (T := 24) (l := 1) rfl) ?_))
  rintro _ _ ⟨b1, rfl, rfl⟩
  refine wl_op [] rfl rfl rfl rfl (op_alloc (l := 2) tN27ti) ?_
  rintro _ _ ⟨b2, rfl, rfl⟩
  refine wl_op [] rfl rfl rfl rfl (op_alloc (l := 3) tN32ti) ?_
  rintro _ _ ⟨b3, rfl, rfl⟩
  refine wl_op [] rfl rfl rfl rfl (op_alloc (l := 4) tN32ti) ?_
  rintro _ _ ⟨b4, rfl, rfl⟩
  refine wl_nil (st_tn (w_seq (w_region (zd rfl (op_fieldAddr (off := 1) rfl tF24_1ti) (zd rfl (op_load1 rfl tO5ti (Ent.lab (l := 1) rfl (says_cel 1))) (zd rfl (op_remN rfl rfl (by omega) (by omega)) ?_))))))
  refine zd rfl (op_convI64 rfl (by rw [Try.underlying5]; rfl) Try.underlying3 (by omega)) ?_
  refine zd rfl (op_mul' rfl rfl (by omega)) ?_
  refine zd rfl (op_add' rfl rfl (by omega)) ?_
  refine zd rfl (op_fieldAddr (off := 4) rfl tF24_4ti) (zd rfl (op_load1 rfl tO5ti (Ent.lab (l := 1) rfl (says_cel 4))) (zd rfl (op_convI64 rfl (by rw [Try.underlying5]; rfl) Try.underlying3 (by omega)) ?_))
  refine zd rfl (op_mul' rfl rfl (by omega)) ?_
  refine zd rfl (op_add' rfl rfl (by omega)) ?_
  refine zd rfl (op_fieldAddr (off := 5) rfl tF24_5ti) (zd rfl (op_load1 rfl tO5ti (Ent.lab (l := 1) rfl (says_cel 5))) (zd rfl (op_remN rfl rfl (by omega) (by omega)) ?_))
  refine zd rfl (op_convI64 rfl (by rw [Try.underlying5]; rfl) Try.underlying3 (by omega)) ?_
  refine zd rfl (op_build tB27ti rfl rfl) (wl_op [] rfl rfl rfl rfl (op_alloc (l := 5) tN27ti) ?_)
  rintro _ _ ⟨b5, rfl, rfl⟩
  refine wl_op0 [5] rfl rfl rfl (op_store rfl rfl tZ27ti (by rfl) (by rfl) (by exact Nat.le_of_ble_eq_true rfl)) ?_
  rintro _ _ ⟨rfl, rfl⟩
  refine wl_nil (st_tn (w_seq (w_wk 5 (cel b5 (encRu ⟨⟨#[114]⟩, ⟨#[115]⟩, ⟨#[]⟩, 900000 + 1000 * (x.tg % 100), 0, 0, 1 + 20 * x.br, x.dl % 4⟩) 27) rfl (fun _ h => h) ?_)))
  refine w_region (zd rfl (op_fieldAddr (off := 3) rfl tF24_3ti) (zd rfl (op_load1 rfl tO5ti (Ent.lab (l := 1) rfl (says_cel 3))) (zd rfl (op_remN rfl rfl (by omega) (by omega)) ?_)))
  refine zd rfl (op_convI64 rfl (by rw [Try.underlying5]; rfl) Try.underlying3 (by omega)) ?_
  refine zd rfl (op_add' rfl rfl (by omega)) ?_
  refine zd rfl (op_fieldAddr (off := 5) rfl tF27_5ti) (wl_op0 [5] rfl rfl rfl (op_store rfl rfl tZ3ti (by rfl) (by rfl) (by exact Nat.le_of_ble_eq_true rfl)) ?_)
  rintro _ _ ⟨rfl, rfl⟩
  refine wl_nil (st_tn (w_seq (w_wk 5 (cel b5 (encRu ⟨⟨#[114]⟩, ⟨#[115]⟩, ⟨#[]⟩, 900000 + 1000 * (x.tg % 100), 0, 1 + x.sh % 4, 1 + 20 * x.br, x.dl % 4⟩) 27) rfl (fun _ h => h) ?_)))
  refine w_region (zd rfl (op_fieldAddr (off := 5) rfl tF27_5ti) (zd rfl (op_load1 rfl tO3ti (Ent.lab (l := 5) rfl (says_cel 5))) (zd rfl (op_fieldAddr (off := 2) rfl tF24_2ti) (zd rfl (op_load1 rfl tO5ti (Ent.lab (l := 1) rfl (says_cel 2))) (zd rfl (op_remN rfl rfl (by omega) (by omega)) ?_)))))
  refine zd rfl (op_convI64 rfl (by rw [Try.underlying5]; rfl) Try.underlying3 (by omega)) ?_
  refine zd rfl (op_add' rfl rfl (by dsimp only; omega)) ?_
  refine zd rfl (op_fieldAddr (off := 4) rfl tF27_4ti) (wl_op0 [5] rfl rfl rfl (op_store rfl rfl tZ3ti (by rfl) (by rfl) (by exact Nat.le_of_ble_eq_true rfl)) ?_)
  rintro _ _ ⟨rfl, rfl⟩
  refine wl_nil (st_tn (w_seq (w_wk 5 (cel b5 (encRu (ruleV x)) 27) rfl (fun _ h => h) ?_)))
  refine w_region (zd rfl (op_build tB32ti rfl rfl) (wl_op [] rfl rfl rfl rfl (op_alloc (l := 6) tN32ti) ?_))
  rintro _ _ ⟨b6, rfl, rfl⟩
  refine wl_op0 [6] rfl rfl rfl (op_store rfl rfl tZ32ti (by rfl) (by rfl) (by exact Nat.le_of_ble_eq_true rfl)) ?_
  rintro _ _ ⟨rfl, rfl⟩
  refine wl_nil (st_tn (w_seq (w_region (zd rfl (op_build tB32ti rfl rfl) (wl_op [] rfl rfl rfl rfl (op_alloc (l := 7) tN32ti) ?_)))))
  rintro _ _ ⟨b7, rfl, rfl⟩
  refine wl_op0 [7] rfl rfl rfl (op_store rfl rfl tZ32ti (by rfl) (by rfl) (by exact Nat.le_of_ble_eq_true rfl)) ?_
  rintro _ _ ⟨rfl, rfl⟩
  refine wl_nil (st_tn (w_seq (w_seq (w_region (za rfl (wl_nil (st_tn (w_block (w_emp 96 (slO_nil 3 1) ?_)))))))))
  refine w_emp 97 (slO_nil 3 1) ?_
  refine w_loopQ (X := Nat × List Int × Option Addr × Nat × List Int × Option Addr × Nat) (fun z => (z.1 ≤ x.slots.length ∧ z.1 ≤ 24) ∧ z.2.1 = ((x.slots.take z.1).map pairV).map Prod.fst ∧ z.2.2.2.2.1 = ((x.slots.take z.1).map pairV).map Prod.snd) (fun z => [(8, .int .i64 (z.1))]) (fun z => [(96, slW 3 SL.encZ 1 (.slice (z.2.2.1) (z.2.1).length (z.2.2.2.1)) (z.2.1)), (6, cel b6 [.string ⟨#[115]⟩, .string ⟨#[]⟩, .int .i64 2, .int .i64 0, .int .i64 0, .int .i64 100, .slice (z.2.2.1) (z.2.1).length (z.2.2.2.1)] 32), (97, slW 3 SL.encZ 1 (.slice (z.2.2.2.2.2.1) (z.2.2.2.2.1).length (z.2.2.2.2.2.2)) (z.2.2.2.2.1)), (7, cel b7 [.string ⟨#[115]⟩, .string ⟨#[]⟩, .int .i64 1, .int .i64 0, .int .i64 0, .int .i64 100, .slice (z.2.2.2.2.2.1) (z.2.2.2.2.1).length (z.2.2.2.2.2.2)] 32)]) (fun z => 24 - z.1) ((0, [], none, 0, [], none, 0)) [(1, _), (2, _), (3, _), (4, _), (5, _), (6, _), (7, _)] [(1, _), (2, _), (3, _), (4, _), (5, _)] [96, 6, 97, 7, 1, 2, 3, 4, 5] rfl (rfl) (.cons rfl (.nil _)) (.cons rfl (.cons rfl (.cons rfl (.cons rfl (.cons rfl (.cons rfl (.cons rfl (.nil _)))))))) (by
      try dsimp only
      exact ⟨⟨Nat.zero_le _, Nat.zero_le _⟩, rfl, rfl⟩) ?_
  rintro ⟨i, er, a_er, c_er, tr, a_tr, c_tr⟩ ⟨hi, he, ht⟩
  refine w_norm2 (by dsimp only [List.cons_append, List.nil_append]) (by dsimp only [List.cons_append, List.nil_append]) ?_
  try dsimp only at hi he ht ⊢
  refine w_seq (w_seq (w_cutL [(50, .bool (decide ((i : Int) < x.slots.length ∧ (i : Int) < 24)))] [1, 2, 3, 4, 5, 6, 7, 8] [96, 6, 97, 7, 1, 2, 3, 4, 5] rfl (fun K' hK => ?_) ?_))
  · -- cut r7
    refine w_region (zm rfl (zd rfl (op_fieldAddr (off := 0) rfl tF24_0ti) (zd rfl (op_load1 rfl tO22ti (Ent.lab (l := 1) rfl (says_cel 0))) (zd rfl (op_lenT rfl tS22ti (Sl.ent (g.app _))) (zd rfl (op_lss rfl rfl) (zm rfl (wl_gsplit (t := 47) rfl (fun hg47 => ?_) (fun hg47 => ?_))))))))
    · -- 47 is True
      refine wl_wanted_det rfl rfl rfl rfl rfl rfl rfl (op_move rfl) (wl_wanted_det rfl rfl rfl rfl rfl rfl rfl (op_lss rfl rfl) (zd rfl (op_pick_t rfl rfl) (wl_nil (st_tn ?_))))
      exact cut_done1 [96, 6, 97, 7, 1, 2, 3, 4, 5] hK rfl (by first | (rw [decide_eq_decide]; omega) | (symm; rw [decide_eq_false_iff_not]; omega) | (symm; rw [decide_eq_true_iff]; omega) | (simp; done) | (simp; omega) | (simp [*]; done) | (simp [*]; omega)) (by rfl) rfl rfl
    · -- 47 is False
      refine wl_unwanted rfl rfl rfl rfl rfl rfl rfl rfl (wl_unwanted rfl rfl rfl rfl rfl rfl rfl rfl (zd rfl (op_pick_f rfl rfl) (wl_nil (st_tn ?_))))
      exact cut_done1 [96, 6, 97, 7, 1, 2, 3, 4, 5] hK rfl (by first | (rw [decide_eq_decide]; omega) | (symm; rw [decide_eq_false_iff_not]; omega) | (symm; rw [decide_eq_true_iff]; omega) | (simp; done) | (simp; omega) | (simp [*]; done) | (simp [*]; omega)) (by rfl) rfl rfl
  · -- behind r7
    show W _ _ _ _ _ [(50, _), (1, _), (2, _), (3, _), (4, _), (5, _), (6, _), (7, _), (8, _)] [(96, _), (6, _), (97, _), (7, _), (1, _), (2, _), (3, _), (4, _), (5, _)] _
    refine w_cond_d rfl (fun hc50 => ?_) (fun hc50 => ?_)
    · -- c50.t
      obtain ⟨p, hp⟩ := getE (l := x.slots) (i := i) (by omega)
      have hpb := hB.s1 p (List.mem_of_getElem? hp)
      have hel : er.length = i := by rw [he]; simp; omega
      have htl : tr.length = i := by rw [ht]; simp; omega
      refine w_skip (st_tn (w_seq (w_block (w_seq (w_region (zd rfl (op_fieldAddr (off := 0) rfl tF24_0ti) (zd rfl (op_load1 rfl tO22ti (Ent.lab (l := 1) rfl (says_cel 0))) (zm rfl (zd rfl (op_idx rfl rfl tS22ti (Sl.ent (g.app _)) (by omega)) ?_)))))))))
      refine zd rfl (op_idxArr (i := 0) rfl rfl tR72ti (Nat.le_of_ble_eq_true rfl)) (zd rfl (op_ldxf rfl tO5ti (g.app _) (by assumption) (by rfl)) ?_)
      refine zd rfl (op_remN rfl rfl (by omega) (by omega)) ?_
      refine zd rfl (op_convI64 rfl (by rw [Try.underlying5]; rfl) Try.underlying3 (by omega)) ?_
      refine za rfl (wl_nil (st_tn (w_seq (w_region (zd rfl (op_fieldAddr (off := 6) rfl tF32_5ti) (zd rfl (op_load1 rfl tO30ti (Ent.lab (l := 7) rfl (says_cel 6))) (zm rfl (wl_op [] rfl rfl rfl rfl (op_buildSlice (enc := SL.encZ) (l := [_]) (lab := 64) tL30_1ti rfl rfl (fun _ => rfl) rfl) ?_))))))))
      rintro _ _ ⟨a64, c64, rfl, rfl⟩
      refine wl_op [97] rfl rfl rfl rfl (op_append (lab := 97) (lab' := 65) rfl rfl tP30ti SL.enc1Z (Sl.lab 64 rfl (by simp [maxLen])) (by first | omega | (simp; done) | (simp; omega) | (simp [*]; omega)) (by first | omega | (simp; done) | (simp; omega) | (simp [*]; omega))) ?_
      rintro _ _ ⟨a65, c65, rfl, rfl⟩
      refine zd rfl (op_fieldAddr (off := 6) rfl tF32_5ti) (wl_op0 [7] rfl rfl rfl (op_store rfl rfl tZ30ti (by rfl) (by rfl) (by exact Nat.le_of_ble_eq_true rfl)) ?_)
      rintro _ _ ⟨rfl, rfl⟩
      refine wl_nil (st_tn ?_)
      refine w_drawW (fun β => [⟨67, [], [], [], noW (_), false, [], []⟩, ⟨68, [0], [], [], noW (_), false, [], []⟩, ⟨69, [], [], [], noW (_), false, [], []⟩, ⟨70, [], [], [], noW (_), false, [], []⟩, ⟨71, [3], [], [], noW (_), false, [], []⟩, ⟨72, [], [], [], noW (_), false, [], []⟩, ⟨73, [4, 5], [], [], noW (_), false, [], []⟩, ⟨74, [6], [], [], noW (_), false, [], []⟩, ⟨75, [7], [], [], noW (_), false, [], []⟩, ⟨76, [8], [], [], noW (_), false, [], []⟩, ⟨77, [2, 9], [], [], noW (_), false, [], []⟩, ⟨78, [10], [], [], fun w => DetW _ _, false, [], []⟩]) [] [6, 9, 1, 8] [⟨67, [], [], false, [], []⟩, ⟨68, [0], [], false, [], []⟩, ⟨69, [], [], false, [], []⟩, ⟨70, [], [], false, [], []⟩, ⟨71, [3], [], false, [], []⟩, ⟨72, [], [], false, [], []⟩, ⟨73, [4, 5], [], false, [], []⟩, ⟨74, [6], [], false, [], []⟩, ⟨75, [7], [], false, [], []⟩, ⟨76, [8], [], false, [], []⟩, ⟨77, [2, 9], [], false, [], []⟩, ⟨78, [10], [], false, [], []⟩] [[], [], [], [], [], [], [], [], [], [], [], []] [[], [], [], [], [], [], [], [], [], [], [], []] tMixti (fun _ => by rfl) (fun _ => by rfl) (by kernel_rfl) (by kernel_rfl) (by rfl) (by rfl)
          (fun β => ⟨.p rfl (by intro X; exact op_fieldAddr (off := 6) rfl tF32_5ti),
          ⟨.p rfl (by intro X; rintro _ _ ⟨rfl, rfl⟩; exact op_load1 rfl tO30ti (Ent.lab (l := 6) rfl (says_cel 6))),
          ⟨.p rfl (by intro X; exact op_move rfl),
          ⟨.p rfl (by intro X; exact op_fieldAddr (off := 0) rfl tF24_0ti),
          ⟨.p rfl (by intro X; rintro _ _ ⟨rfl, rfl⟩; exact op_load1 rfl tO22ti (Ent.lab (l := 1) rfl (says_cel 0))),
          ⟨.p rfl (by intro X; exact op_move rfl),
          ⟨.p rfl (by intro X; rintro _ _ ⟨rfl, rfl⟩ _ _ ⟨rfl, rfl⟩; exact op_idx rfl rfl tS22ti (Sl.ent (Sl.app (Sl.app g _) _)) (by omega)),
          ⟨.p rfl (by intro X; rintro _ _ ⟨rfl, rfl⟩; exact op_idxArr (i := 1) rfl rfl tR72ti (Nat.le_of_ble_eq_true rfl)),
          ⟨.p rfl (by intro X; rintro _ _ ⟨rfl, rfl⟩; exact op_ldxf rfl tO5ti (Sl.app (Sl.app g _) _) (by assumption) (by rfl)),
          ⟨.p rfl (by intro X; rintro _ _ ⟨rfl, rfl⟩; exact op_convI64 rfl (by rw [Try.underlying5]; rfl) Try.underlying3 (by omega)),
          ⟨.p rfl (by intro X; rintro _ _ ⟨rfl, rfl⟩ _ _ ⟨rfl, rfl⟩; exact op_min rfl rfl),
          ⟨.px rfl (by intro X; rintro _ _ ⟨rfl, rfl⟩; refine OpT.mono (op_buildSlice (enc := SL.encZ) (l := [min (p.1 % 32) p.2]) (lab := 78) tL30_1ti rfl rfl (fun _ => rfl) rfl) ?_; rintro _ _ ⟨a78, c78, rfl, rfl⟩; obtain ⟨w, rfl, rfl⟩ : ∃ w : Wt, w.a = a78 ∧ w.c = c78 := ⟨{ a := a78, c := c78 }, rfl, rfl⟩; exact ⟨w, rfl, rfl⟩),
          trivial⟩⟩⟩⟩⟩⟩⟩⟩⟩⟩⟩⟩)
          (fun β β' => ⟨fun _ => by rfl, ⟨fun _ => by rfl, ⟨fun _ => by rfl, ⟨fun _ => by rfl, ⟨fun _ => by rfl, ⟨fun _ => by rfl, ⟨fun _ => by rfl, ⟨fun _ => by rfl, ⟨fun _ => by rfl, ⟨fun _ => by rfl, ⟨fun _ => by rfl, ⟨fun _ => by rfl, trivial⟩⟩⟩⟩⟩⟩⟩⟩⟩⟩⟩⟩) ?_
      intro β
      rintro _ _ ⟨rfl, rfl⟩ _ _ ⟨rfl, rfl⟩ _ _ ⟨rfl, rfl⟩ _ _ ⟨rfl, rfl⟩ _ _ ⟨rfl, rfl⟩ _ _ ⟨rfl, rfl⟩ _ _ ⟨rfl, rfl⟩ _ _ ⟨rfl, rfl⟩ _ _ ⟨rfl, rfl⟩ _ _ ⟨rfl, rfl⟩ _ _ ⟨rfl, rfl⟩ _ _ ⟨rfl, rfl⟩
      generalize (β 11).a = a78
      generalize (β 11).c = c78
      refine wl_norm (e' := [(1, _), (2, _), (3, _), (4, _), (5, _), (6, _), (7, _), (8, _), (68, _), (78, _)]) (.cons rfl (.cons rfl (.cons rfl (.cons rfl (.cons rfl (.cons rfl (.cons rfl (.cons rfl (.cons rfl (.cons rfl (.nil _))))))))))) (by dsimp only [cond_false, cond_true, List.nil_append, List.cons_append]) ?_
      refine wl_op [96] rfl rfl rfl rfl (op_append (lab := 96) (lab' := 79) rfl rfl tP30ti SL.enc1Z (Sl.lab 78 rfl (by simp [maxLen])) (by first | omega | (simp; done) | (simp; omega) | (simp [*]; omega)) (by first | omega | (simp; done) | (simp; omega) | (simp [*]; omega))) ?_
      rintro _ _ ⟨a79, c79, rfl, rfl⟩
      refine zd rfl (op_fieldAddr (off := 6) rfl tF32_5ti) (wl_op0 [6] rfl rfl rfl (op_store rfl rfl tZ30ti (by rfl) (by rfl) (by exact Nat.le_of_ble_eq_true rfl)) ?_)
      rintro _ _ ⟨rfl, rfl⟩
      refine wl_nil (st_bn (st_tn (w_region (zm rfl (zd rfl (op_add' rfl rfl (by omega)) ?_)))))
      refine za rfl (wl_nil ?_)
      refine st_roundQ (x := (i, er, a_er, c_er, tr, a_tr, c_tr)) ((i + 1, _, _, _, _, _, _)) [79, 6, 65, 7, 1, 2, 3, 4, 5] rfl (rfl) (.cons rfl (.nil _)) (.cons rfl (.cons rfl (.cons rfl (.cons rfl (.cons rfl (.cons rfl (.cons rfl (.nil _)))))))) (by
          try dsimp only
          refine ⟨by omega, ?_, ?_⟩
          · rw [take_snoc hp, List.map_append, List.map_append, ← he]; rfl
          · rw [take_snoc hp, List.map_append, List.map_append, ← ht]; rfl) (by
          try dsimp only
          omega)
    · -- c50.f
      refine w_exit (st_te ?_)
      refine st_te ?_
      refine st_be (st_tn (w_seq ?_))
      refine w_drawW (fun β => [⟨81, [], [], [], noW (_), false, [], []⟩, ⟨82, [], [], [], noW (_), false, [], []⟩, ⟨83, [], [], [], noW (_), false, [], []⟩, ⟨87, [0], [], [(2, _)], noW (_), false, [], []⟩, ⟨88, [1], [], [(3, _)], noW (_), false, [], []⟩]) [2, 3] [5, 6, 7, 2, 3] [⟨81, [], [], false, [], []⟩, ⟨82, [], [], false, [], []⟩, ⟨83, [], [], false, [], []⟩, ⟨87, [0], [], false, [], []⟩, ⟨88, [1], [], false, [], []⟩] [[], [], [], [], []] [[], [], [], [(2, _)], [(3, _)]] tMixti (fun _ => by rfl) (fun _ => by rfl) (by kernel_rfl) (by kernel_rfl) (by rfl) (by rfl)
          (fun β => ⟨.p rfl (by intro X; exact op_loadA rfl tA27ti (Ent.lab (l := 5) rfl (says_cel 0)) (Nat.le_of_ble_eq_true rfl)),
          ⟨.p rfl (by intro X; exact op_loadA rfl tA32ti (Ent.lab (l := 6) rfl (says_cel 0)) (Nat.le_of_ble_eq_true rfl)),
          ⟨.p rfl (by intro X; exact op_loadA rfl tA32ti (Ent.lab (l := 7) rfl (says_cel 0)) (Nat.le_of_ble_eq_true rfl)),
          ⟨.p rfl (by intro X; rintro _ _ ⟨rfl, rfl⟩; exact op_store rfl rfl tZ27ti (by rfl) (by rfl) (by exact Nat.le_of_ble_eq_true rfl)) (hu := by exact .inr fun _ _ h => h.1),
          ⟨.p rfl (by intro X; rintro _ _ ⟨rfl, rfl⟩; exact op_store rfl rfl tZ32ti (by rfl) (by rfl) (by exact Nat.le_of_ble_eq_true rfl)) (hu := by exact .inr fun _ _ h => h.1),
          trivial⟩⟩⟩⟩⟩)
          (fun β β' => ⟨fun _ => by rfl, ⟨fun _ => by rfl, ⟨fun _ => by rfl, ⟨fun _ => by rfl, ⟨fun _ => by rfl, trivial⟩⟩⟩⟩⟩) ?_
      intro β
      rintro _ _ ⟨rfl, rfl⟩ _ _ ⟨rfl, rfl⟩ _ _ ⟨rfl, rfl⟩ _ _ ⟨rfl, rfl⟩ _ _ ⟨rfl, rfl⟩
      refine wl_norm (e' := [(2, _), (3, _), (4, _), (83, _)]) (.cons rfl (.cons rfl (.cons rfl (.cons rfl (.nil _))))) (by dsimp only [cond_false, cond_true, List.nil_append, List.cons_append]) ?_
      refine wl_op0 [4] rfl rfl rfl (op_store rfl rfl tZ32ti (by rfl) (by rfl) (by exact Nat.le_of_ble_eq_true rfl)) ?_
      rintro _ _ ⟨rfl, rfl⟩
      refine wl_nil (st_tn (w_ret (st_ret (vs := [_, _, _]) [96, 97] Try.results6 ⟨⟨_, rfl, Ent.mono (Ent.lab (l := 2) rfl (says_cel 0)) (fun _ h => run_load_agg tA27ti h (Nat.le_of_ble_eq_true rfl))⟩, ⟨⟨_, rfl, Ent.mono (Ent.lab (l := 3) rfl (says_cel 0)) (fun _ h => run_load_agg tA32ti h (Nat.le_of_ble_eq_true rfl))⟩, ⟨⟨_, rfl, Ent.mono (Ent.lab (l := 4) rfl (says_cel 0)) (fun _ h => run_load_agg tA32ti h (Nat.le_of_ble_eq_true rfl))⟩, trivial⟩⟩⟩ rfl ?_)))
      refine ⟨[(lab1, _), (lab2, _)], rfl, ?_⟩
      have hfin : x.slots.take i = x.slots.take 24 := by
        by_cases h24 : i = 24
        · rw [h24]
        · rw [List.take_of_length_le (by omega), List.take_of_length_le (by omega)]
      rw [hfin] at he ht
      have he2 : er = (pairsV x).map Prod.fst := he
      have ht2 : tr = (pairsV x).map Prod.snd := ht
      subst he2; subst ht2
      exact ⟨_, _, _, _, rfl, rfl⟩
end Go.Proofs.Ytecmigildpkigaa
namespace Go.Proofs.Ytecmigildpkigaa
open Go Go.SL Go.RowKit
set_option linter.unusedVariables false
set_option linter.unusedSimpArgs false
theorem tA27tj : aggB Try.prog 27 8 = true := by kernel_rfl
theorem tA32tj : aggB Try.prog 32 7 = true := by kernel_rfl
theorem tB27tj : placesB Try.prog 27 = some ([(0, 1), (1, 1), (2, 1), (3, 1), (4, 1), (5, 1), (6, 1), (7, 1)], [Value.string .empty, Value.string .empty, Value.string .empty, Value.int .i64 0, Value.int .i64 0, Value.int .i64 0, Value.int .i64 0, Value.int .i64 0]) := by kernel_rfl
theorem tF32_0tj : fieldB Try.prog 32 0 0 = true := by kernel_rfl
theorem tF32_1tj : fieldB Try.prog 32 1 1 = true := by kernel_rfl
theorem tF32_4tj : fieldB Try.prog 32 4 5 = true := by kernel_rfl
theorem tF32_5tj : fieldB Try.prog 32 5 6 = true := by kernel_rfl
theorem tN27tj : (Try.prog.info? 27).bind (·.zero) = some (Value.agg #[Value.string .empty, Value.string .empty, Value.string .empty, Value.int .i64 0, Value.int .i64 0, Value.int .i64 0, Value.int .i64 0, Value.int .i64 0]) := by kernel_rfl
theorem tO3tj : oneB Try.prog 3 = true := by kernel_rfl
theorem tO30tj : oneB Try.prog 30 = true := by kernel_rfl
theorem tO9tj : oneB Try.prog 9 = true := by kernel_rfl
theorem tS30tj : sliceB Try.prog 30 3 1 = true := by kernel_rfl
theorem tZ27tj : (Try.prog.info? 27).map (·.size) = some 8 := by kernel_rfl
def ruX (x : SeV) (g : Int) : RuV := ⟨⟨#[120]⟩, x.svc, x.op, g, 1, 1, 1, 0⟩
theorem sum_take {l : List Int} (h : ∀ v ∈ l, 0 ≤ v) (i : Nat) : (l.take i).sum ≤ l.sum := by
  have h1 : (l.take i).sum + (l.drop i).sum = l.sum := by rw [← List.sum_append, List.take_append_drop]
  have h2 : ∀ m : List Int, (∀ v ∈ m, 0 ≤ v) → 0 ≤ m.sum := fun m => by
    induction m with
    | nil => intro _; simp
    | cons a m ih => intro hm; rw [List.sum_cons]; have := hm a (by simp); have := ih (fun v hv => hm v (by simp [hv])); omega
  have := h2 (l.drop i) (fun v hv => h v (List.mem_of_mem_drop hv))
  omega
theorem sum_snoc {l : List Int} {i : Nat} {v : Int} (h : l[i]? = some v) : (l.take (i + 1)).sum = (l.take i).sum + v := by rw [take_snoc h, List.sum_append]; simp
set_option maxHeartbeats 1000000 in
set_option maxRecDepth 100000 in
theorem exh_any {σ : World} {F : List Res} {x y : SeV} (g : Int) (hg : 0 ≤ g ∧ g < 1000000) (hc : CinOk (ruX x g) x y) (gx : Sl σ F SL.encZ 1 (.slice x.a x.vals.length x.c) x.vals) (gy : Sl σ F SL.encZ 1 (.slice y.a y.vals.length y.c) y.vals) :
    FnT Try.prog σ F 13 [.agg (encSe x).toArray, .agg (encSe y).toArray, .int .i64 g] [] (fun u ρ => ∃ z : Int, u = .tuple #[.int .i64 z, .bool (decide (x.vals.sum > budZ y.vals.sum g)), .int .i64 0] ∧ ρ = []) := by
  refine fn_of 74 Try.func13 rfl Try.ntmps13 rfl ?_
  have hlx := hc.xo.len
  have hly := hc.yo.len
  have hfr := hc.xo.fr
  refine w_seq (w_region (wl_op [] rfl rfl rfl rfl (op_box (T := 32) (l := 3) rfl) ?_))
  rintro _ _ ⟨b3, rfl, rfl⟩
  refine wl_op [] rfl rfl rfl rfl (op_box (T := 32) (l := 4) rfl) ?_
  rintro _ _ ⟨b4, rfl, rfl⟩
  refine za rfl (za rfl (za rfl (wl_nil (st_tn (w_seq (w_seq (w_region (zm rfl (zd rfl (op_fn Try.func30 rfl rfl rfl (isTarget_any g)) (zd rfl (op_val (v' := .bool false) (by rw [decide_eq_false (by omega)]) (op_not_d rfl)) ?_))))))))))
  refine wl_nil (st_tn (w_cond_f (rfl) ?_))
  refine w_skip (st_tn (w_seq (w_region (zd rfl (op_fieldAddr (off := 0) rfl tF32_0tj) (zd rfl (op_load1 rfl tO9tj (Ent.lab (l := 3) rfl (says_cel 0))) (zd rfl (op_fieldAddr (off := 1) rfl tF32_1tj) (zd rfl (op_load1 rfl tO9tj (Ent.lab (l := 3) rfl (says_cel 1))) (zm rfl (zd rfl (op_build tB27tj rfl rfl) (wl_op [] rfl rfl rfl rfl (op_alloc (l := 9) tN27tj) ?_))))))))))
  rintro _ _ ⟨b9, rfl, rfl⟩
  refine wl_op0 [9] rfl rfl rfl (op_store rfl rfl tZ27tj (by rfl) (by rfl) (by exact Nat.le_of_ble_eq_true rfl)) ?_
  rintro _ _ ⟨rfl, rfl⟩
  refine wl_nil (st_tn (w_seq (w_seq (w_region (zd rfl (op_loadA rfl tA27tj (Ent.lab (l := 9) rfl (says_cel 0)) (Nat.le_of_ble_eq_true rfl)) (zd rfl (op_loadA rfl tA32tj (Ent.lab (l := 3) rfl (says_cel 0)) (Nat.le_of_ble_eq_true rfl)) (zd rfl (op_loadA rfl tA32tj (Ent.lab (l := 4) rfl (says_cel 0)) (Nat.le_of_ble_eq_true rfl)) (zd rfl (op_fn Try.func24 rfl rfl rfl (cin_ok (r := ruX x g) hc (gx.app _) (gy.app _))) (za rfl (wl_nil (st_tn (w_seq (w_region ?_)))))))))))))
  refine zm rfl (zd rfl (op_val (v' := .bool false) (by rfl) (op_neq rfl rfl)) ?_)
  refine wl_nil (st_tn (w_cond_f (rfl) ?_))
  refine w_skip (st_tn (w_seq (w_region (za rfl (wl_nil (st_tn (w_seq (w_seq (w_region (zd rfl (op_fieldAddr (off := 6) rfl tF32_5tj) (zd rfl (op_load1 rfl tO30tj (Ent.lab (l := 4) rfl (says_cel 6))) (zd rfl (op_lenT rfl tS30tj (Sl.ent (gy.app _))) (zm rfl ?_)))))))))))))
  refine wl_nil (st_tn (w_block ?_))
  refine w_loopQ (X := Int × Nat) (fun z => z.2 ≤ y.vals.length ∧ z.1 = (y.vals.take z.2).sum ∧ 0 ≤ z.1 ∧ z.1 ≤ 1000 * z.2) (fun z => [(11, .int .i64 (z.1)), (38, .int .i64 (z.2))]) (fun _ => []) (fun z => y.vals.length - z.2) ((0, 0)) [(2, _), (3, _), (36, _), (37, _)] [(3, _), (4, _)] [3, 4] rfl (rfl) (.cons rfl (.cons rfl (.nil _))) (.cons rfl (.cons rfl (.cons rfl (.cons rfl (.nil _))))) (by
      try dsimp only
      exact ⟨Nat.zero_le _, rfl, Int.le_refl _, by omega⟩) ?_
  rintro ⟨sm, i⟩ ⟨hi, hsm, hs1, hs2⟩
  refine w_norm2 (by dsimp only [List.cons_append, List.nil_append]) (by dsimp only [List.cons_append, List.nil_append]) ?_
  try dsimp only at hi hsm hs1 hs2 ⊢
  refine w_seq (w_region (zd rfl (op_lss rfl rfl) (wl_nil (st_tn (w_seq (w_cond_d rfl (fun hc39 => ?_) (fun hc39 => ?_)))))))
  · -- c39.t
    obtain ⟨v, hv⟩ := getE (l := y.vals) (i := i) (by omega)
    have hvb := hc.yo.vals v (List.mem_of_getElem? hv)
    refine w_skip (st_tn (w_seq (w_block (w_seq (w_region (zd rfl (op_idx rfl rfl tS30tj (Sl.ent (gy.app _)) (by omega)) ?_))))))
    refine zd rfl (op_ldx rfl tO3tj (gy.app _) (by assumption) (by rfl)) ?_
    refine za rfl (wl_nil (st_tn (w_region (zm rfl (zm rfl (zd rfl (op_add' rfl rfl (by omega)) ?_))))))
    refine za rfl (wl_nil (st_bn (st_tn (w_region (zd rfl (op_add' rfl rfl (by omega)) ?_)))))
    refine zm rfl (wl_nil ?_)
    refine st_roundQ (x := (sm, i)) ((sm + v, i + 1)) [3, 4] rfl (rfl) (.cons rfl (.cons rfl (.nil _))) (.cons rfl (.cons rfl (.cons rfl (.cons rfl (.nil _))))) (by
        try dsimp only
        exact ⟨by omega, by rw [sum_snoc hv, ← hsm], by omega, by omega⟩) (by
        try dsimp only
        omega)
  · -- c39.f
    refine w_exit (st_te ?_)
    refine st_te ?_
    refine st_be (st_tn (w_seq ?_))
    have hit : y.vals.take i = y.vals := List.take_of_length_le (by omega)
    rw [hit] at hsm
    refine w_region (zm rfl (zm rfl (zd rfl (op_fn Try.func11 rfl rfl rfl (fn_imp (budget_any sm g (by omega) hg) (fun u ρ hu => (by rw [hsm] at hu; exact hu : u = .tuple #[.int .i64 (budZ y.vals.sum g), .int .i64 0] ∧ ρ = [])))) ?_)))
    refine zm rfl (zd rfl (op_extract rfl rfl) (zd rfl (op_extract rfl rfl) (za rfl (za rfl (wl_nil (st_tn (w_seq (w_seq (w_region (zm rfl (zd rfl (op_val (v' := .bool false) (by rfl) (op_neq rfl rfl)) ?_)))))))))))
    refine wl_nil (st_tn (w_cond_f (rfl) ?_))
    refine w_skip (st_tn (w_seq (w_region (za rfl (wl_nil (st_tn (w_seq (w_seq (w_region (zd rfl (op_fieldAddr (off := 6) rfl tF32_5tj) (zd rfl (op_load1 rfl tO30tj (Ent.lab (l := 3) rfl (says_cel 6))) (zd rfl (op_lenT rfl tS30tj (Sl.ent (gx.app _))) (zm rfl ?_)))))))))))))
    refine wl_nil (st_tn (w_block ?_))
    refine w_loopQ (X := Int × Nat) (fun z => z.2 ≤ x.vals.length ∧ z.1 = (x.vals.take z.2).sum ∧ (0 ≤ z.1 ∧ z.1 ≤ 1000 * z.2) ∧ (z.1 ≤ budZ y.vals.sum g ∨ z.2 = 0)) (fun z => [(16, .int .i64 (z.1)), (58, .int .i64 (z.2))]) (fun _ => []) (fun z => x.vals.length - z.2) ((0, 0)) [(3, _), (14, _), (56, _), (57, _)] [(3, _)] [3] rfl (rfl) (.cons rfl (.cons rfl (.nil _))) (.cons rfl (.cons rfl (.cons rfl (.cons rfl (.nil _))))) (by
        try dsimp only
        exact ⟨Nat.zero_le _, rfl, ⟨Int.le_refl _, by omega⟩, .inr rfl⟩) ?_
    rintro ⟨sp, j⟩ ⟨hj, hsp, hp1, hp2⟩
    refine w_norm2 (by dsimp only [List.cons_append, List.nil_append]) (by dsimp only [List.cons_append, List.nil_append]) ?_
    try dsimp only at hj hsp hp1 hp2 ⊢
    refine w_seq (w_region (zd rfl (op_lss rfl rfl) (wl_nil (st_tn (w_seq (w_cond_d rfl (fun hc59 => ?_) (fun hc59 => ?_)))))))
    · -- c59.t
      obtain ⟨v, hv⟩ := getE (l := x.vals) (i := j) (by omega)
      have hvb := hc.xo.vals v (List.mem_of_getElem? hv)
      refine w_skip (st_tn (w_seq (w_block (w_seq (w_region (zm rfl (zd rfl (op_idx rfl rfl tS30tj (Sl.ent (gx.app _)) (by omega)) ?_)))))))
      refine zd rfl (op_ldx rfl tO3tj (gx.app _) (by assumption) (by rfl)) ?_
      refine za rfl (za rfl (wl_nil (st_tn (w_seq (w_region (zm rfl (zm rfl (zd rfl (op_add' rfl rfl (by omega)) ?_))))))))
      refine za rfl (wl_nil (st_tn (w_seq (w_region (zm rfl (zm rfl (zd rfl (op_gtr rfl rfl) (wl_nil (st_tn (w_cond_d rfl (fun hc68 => ?_) (fun hc68 => ?_)))))))))))
      · -- c68.t
        refine w_seq (w_region (zd rfl (op_fieldAddr (off := 5) rfl tF32_4tj) (zd rfl (op_load1 rfl tO3tj (Ent.lab (l := 3) rfl (says_cel 5))) (zm rfl (zd rfl (op_add' rfl rfl (by omega)) ?_)))))
        refine za rfl (za rfl (za rfl (wl_nil (st_tn (w_ret (st_br (st_tr (st_tr (st_br (st_tr (st_ret (vs := [_, _, _]) [] Try.results13 ⟨rfl, ⟨rfl, ⟨rfl, trivial⟩⟩⟩ rfl ?_)))))))))))
        refine ⟨_, rfl, ?_⟩
        have h1 := sum_take (l := x.vals) (fun v hv => (hc.xo.vals v hv).1) (j + 1)
        rw [sum_snoc hv, ← hsp] at h1
        have h2 : x.vals.sum > budZ y.vals.sum g := by omega
        exact ⟨x.fr + j, by rw [decide_eq_true h2]; rfl, rfl⟩
      · -- c68.f
        refine w_skip (st_bn (st_tn (w_region (zd rfl (op_add' rfl rfl (by omega)) ?_))))
        refine zm rfl (wl_nil ?_)
        refine st_roundQ (x := (sp, j)) ((sp + v, j + 1)) [3] rfl (rfl) (.cons rfl (.cons rfl (.nil _))) (.cons rfl (.cons rfl (.cons rfl (.cons rfl (.nil _))))) (by
            try dsimp only
            exact ⟨by omega, by rw [sum_snoc hv, ← hsp], by omega, .inl (by omega)⟩) (by
            try dsimp only
            omega)
    · -- c59.f
      refine w_exit (st_te ?_)
      refine st_te ?_
      refine st_be (st_tn (w_seq (w_region (za rfl (za rfl (za rfl (wl_nil (st_tn (w_ret (st_ret (vs := [_, _, _]) [] Try.results13 ⟨rfl, ⟨rfl, ⟨rfl, trivial⟩⟩⟩ rfl ?_))))))))))
      refine ⟨_, rfl, ?_⟩
      have hjt : x.vals.take j = x.vals := List.take_of_length_le (by omega)
      rw [hjt] at hsp
      have hb0 : 0 ≤ budZ y.vals.sum g := by unfold budZ; rw [← hsm]; exact Int.ediv_nonneg (Int.mul_nonneg hs1 (by omega)) (by omega)
      have h2 : ¬ x.vals.sum > budZ y.vals.sum g := by rcases hp2 with h | h <;> omega
      exact ⟨0, by rw [decide_eq_false h2]; rfl, rfl⟩
end Go.Proofs.Ytecmigildpkigaa
namespace Go.Proofs.Ytecmigildpkigaa
open Go Go.SL Go.RowKit
set_option linter.unusedVariables false
set_option linter.unusedSimpArgs false
theorem tA27tk : aggB Try.prog 27 8 = true := by kernel_rfl
theorem tB82tk : placesB Try.prog 82 = some ([(0, 1), (1, 1)], [Value.slice none 0 0, Value.int .i64 0]) := by kernel_rfl
theorem tF27_0tk : fieldB Try.prog 27 0 0 = true := by kernel_rfl
theorem tF82_0tk : fieldB Try.prog 82 0 0 = true := by kernel_rfl
theorem tMixtk : Try.prog.follows .mixedOrders = true := by kernel_rfl
theorem tN27tk : (Try.prog.info? 27).bind (·.zero) = some (Value.agg #[Value.string .empty, Value.string .empty, Value.string .empty, Value.int .i64 0, Value.int .i64 0, Value.int .i64 0, Value.int .i64 0, Value.int .i64 0]) := by kernel_rfl
theorem tO80tk : oneB Try.prog 80 = true := by kernel_rfl
theorem tO9tk : oneB Try.prog 9 = true := by kernel_rfl
theorem tP80tk : appB Try.prog 80 77 1035 12400 = true := by kernel_rfl
theorem tQ83tk : mapB Try.prog 83 9 4 KStr.desc := ⟨Try.underlying83, Try.underlying9⟩
theorem tS41tk : sliceB Try.prog 41 27 8 = true := by kernel_rfl
theorem tZ27tk : (Try.prog.info? 27).map (·.size) = some 8 := by kernel_rfl
theorem tZ80tk : (Try.prog.info? 80).map (·.size) = some 1 := by kernel_rfl
abbrev encBv (x : Bool) : Value := .bool x
def encMo (r : RuV) : List Value := encG r (ringV []) 0 0 0 []
theorem Mo_len (r : RuV) : (encMo r).length = 1035 := G_len (ringV_len (by simp))
theorem enc1Mo : Enc1 encMo 1035 := ⟨Mo_len, fun r u h => by
  unfold encMo encG at h
  rcases List.mem_append.1 h with h | h
  · simp only [encRu, List.mem_cons, List.not_mem_nil, or_false] at h
    rcases h with rfl | rfl | rfl | rfl | rfl | rfl | rfl | rfl <;> rfl
  · rcases List.mem_append.1 h with h | h
    · unfold flatR at h
      obtain ⟨l, hl, hu⟩ := List.mem_flatten.1 h
      obtain ⟨p, _, rfl⟩ := List.mem_map.1 hl
      simp only [encSm, List.mem_cons, List.not_mem_nil, or_false] at hu
      rcases hu with rfl | rfl | rfl | rfl <;> rfl
    · simp only [List.mem_cons, List.not_mem_nil, or_false] at h
      rcases h with rfl | rfl | rfl <;> rfl⟩
theorem info77 : ∃ it z, Try.prog.info? 77 = some it ∧ it.zero = some z ∧ z.cells.toList = encMo ruZ := by
  have h := tB77x
  unfold placesB at h
  split at h
  · rename_i it fs h1 h2
    split at h
    · rename_i z pl h3 h4
      simp only [Option.some.injEq, Prod.mk.injEq] at h
      exact ⟨it, z, h1, h3, h.2⟩
    · simp at h
  · simp at h
theorem size77 : (Try.prog.info? 77).map (·.size) = some 1035 := by kernel_rfl
theorem tL80x : zerosB Try.prog 80 77 1035 1 = some (encMo ruZ) := by
  obtain ⟨it, z, h1, h2, h3⟩ := info77
  have h4 := size77
  rw [h1] at h4
  have h4 : it.size = 1035 := by simpa using h4
  have h5 : z.cells.size = 1035 := by rw [← Array.length_toList, h3, Mo_len]
  unfold zerosB
  rw [Try.underlying80, h1]
  dsimp only
  rw [h2]
  dsimp only
  rw [if_pos (by rw [h4]; decide), ← h3]
  refine congrArg some ?_
  apply List.ext_getElem
  · simp [h5]
  · intro i hi1 hi2
    have hi : i < z.cells.size := by simpa using hi2
    simp [Nat.mod_eq_of_lt hi, hi]
theorem fill_one {z cs : List Value} {k : Nat} (h1 : cs.length = k) (h2 : z.length = k) : fillS [(0, k)] z [(0, .agg cs.toArray)] = some cs := by
  have h3 : setsL z 0 cs = cs := by
    have := setsL_mid cs [] z [] (by rw [h1, h2])
    simpa using this
  have h4 : ((Value.agg cs.toArray).cells.size).beq k = true := by
    show (cs.toArray.size).beq k = true
    rw [List.size_toArray, h1]; exact Nat.beq_refl k
  have h5 : (0 + k).ble z.length = true := by rw [h2]; exact Nat.ble_eq_true_of_le (by omega)
  simp only [fillS, List.getElem?_cons_zero, h4, h5, Bool.and_self, cond_true]
  exact congrArg some h3
theorem fill80 (r : RuV) : fillS (List.map (fun i => (i * 1035, 1035)) (List.range 1)) (encMo ruZ) [(0, .agg (encMo r).toArray)] = some (List.map encMo [r]).flatten := by
  have h1 : (List.map encMo [r]).flatten = encMo r := by rw [List.map_singleton, List.flatten_cons, List.flatten_nil, List.append_nil]
  rw [h1]
  exact fill_one (Mo_len r) (Mo_len ruZ)
set_option maxHeartbeats 600000 in
set_option maxRecDepth 100000 in
theorem new_one {σ : World} {F : List Res} {r : RuV} {a : Option Addr} {c : Nat} (lab1 lab2 : Nat) (hr : RuOk r) (g : Sl σ F encRu 8 (.slice a 1 c) [r]) :
    FnT Try.prog σ F 8 [.slice a 1 c, .int .i64 100] [] (fun u ρ => ∃ (b : Nat) (a' : Option Addr) (c' : Nat), u = .tuple #[.pointer (some ⟨b, 0, none⟩), .int .i64 0] ∧ ρ = [(lab1, cel b [.slice a' 1 c', .int .i64 100] 82), (lab2, slW 77 encMo 1035 (.slice a' 1 c') [r])]) := by
  refine fn_of 58 Try.func8 rfl Try.ntmps8 rfl ?_
  have hl1 : [r].length = 1 := rfl
  refine w_seq (w_region (za rfl (za rfl (wl_nil (st_tn (w_seq (w_seq (w_region (zm rfl (zd rfl (op_lenT rfl tS41tk (Sl.ent (g.app _))) (zd rfl (op_val (v' := .bool false) (by rfl) (op_gtr rfl rfl)) ?_)))))))))))
  refine wl_nil (st_tn (w_cond_f (rfl) ?_))
  refine w_skip (st_tn (w_seq (w_region (zm rfl (zd rfl (op_build tB82tk rfl rfl) (wl_op [] rfl rfl rfl rfl (op_box (T := 82) (l := 16) rfl) ?_))))))
  rintro _ _ ⟨b16, rfl, rfl⟩
  refine za rfl (wl_nil (st_tn (w_seq (w_region (wl_op [] rfl rfl rfl rfl (op_makeMap (kt := KStr) (encV := encBv) (lab := 17)) ?_)))))
  rintro _ _ ⟨b17, rfl, rfl⟩
  refine za rfl (wl_nil (st_tn (w_seq (w_seq (w_region (zm rfl (zd rfl (op_lenT rfl tS41tk (Sl.ent (g.app _))) (zm rfl (wl_nil (st_tn (w_block (w_emp 916 (slO_nil 77 1035) ?_))))))))))))
  refine w_loopQ (X := Nat × List RuV × Option Addr × Nat × List (ByteArray × Bool)) (fun z => z.1 ≤ 1 ∧ z.2.1 = [r].take z.1 ∧ z.2.2.2.2 = (if z.1 = 0 then [] else [(r.name, true)])) (fun z => [(20, .int .i64 (z.1))]) (fun z => [(916, slW 77 encMo 1035 (.slice (z.2.2.1) (z.2.1).length (z.2.2.2.1)) (z.2.1)), (16, cel b16 [.slice (z.2.2.1) (z.2.1).length (z.2.2.2.1), .int .i64 100] 82), (17, mp KStr encBv b17 (z.2.2.2.2))]) (fun z => 1 - z.1) ((0, [], none, 0, [])) [(0, _), (1, _), (6, _), (7, _), (18, _), (19, _)] [] [916, 16, 17] rfl (rfl) (.cons rfl (.nil _)) (.cons rfl (.cons rfl (.cons rfl (.cons rfl (.cons rfl (.cons rfl (.nil _))))))) (by
      try dsimp only
      exact ⟨Nat.zero_le _, rfl, rfl⟩) ?_
  rintro ⟨i, ru, a_ru, c_ru, nm⟩ ⟨hi, hru, hnm⟩
  refine w_norm2 (by dsimp only [List.cons_append, List.nil_append]) (by dsimp only [List.cons_append, List.nil_append]) ?_
  try dsimp only at hi hru hnm ⊢
  refine w_seq (w_region (zd rfl (op_lss rfl rfl) (wl_nil (st_tn (w_seq (w_cond_d rfl (fun hc21 => ?_) (fun hc21 => ?_)))))))
  · -- c21.t
    obtain ⟨q, hq⟩ := getE (l := [r]) (i := i) (by omega)
    have hqr : q = r := by have := List.mem_of_getElem? hq; simpa using this
    subst hqr
    refine w_skip (st_tn (w_seq (w_block (w_seq (w_region (zd rfl (op_idx rfl rfl tS41tk (Sl.ent (g.app _)) (by omega)) ?_))))))
    refine zd rfl (op_ldxA rfl tA27tk (g.app _) (by assumption) (by rfl) (by rfl)) ?_
    refine wl_op [] rfl rfl rfl rfl (op_alloc (l := 9) tN27tk) ?_
    rintro _ _ ⟨b9, rfl, rfl⟩
    refine wl_op0 [9] rfl rfl rfl (op_store rfl rfl tZ27tk (by rfl) (by rfl) (by exact Nat.le_of_ble_eq_true rfl)) ?_
    rintro _ _ ⟨rfl, rfl⟩
    refine wl_nil (st_tn (w_seq (w_seq (w_region (zd rfl (op_loadA rfl tA27tk (Ent.lab (l := 9) rfl (says_cel 0)) (Nat.le_of_ble_eq_true rfl)) (zd rfl (op_fn Try.func27 rfl rfl rfl (acheck_ok hr)) (za rfl (wl_nil (st_tn (w_seq (w_region (zm rfl (zd rfl (op_val (v' := .bool false) (by rfl) (op_neq rfl rfl)) ?_)))))))))))))
    refine wl_nil (st_tn (w_cond_f (rfl) ?_))
    refine w_skip (st_tn (w_seq (w_region (zm rfl (zd rfl (op_fieldAddr (off := 0) rfl tF27_0tk) (zd rfl (op_load1 rfl tO9tk (Ent.lab (l := 9) rfl (says_cel 0))) (wl_op0 [17] rfl rfl rfl (op_mapUpdate (kt := KStr) (encV := encBv) (lab := 17) rfl rfl rfl tQ83tk) ?_)))))))
    rintro _ _ ⟨rfl, rfl⟩
    refine wl_nil (st_tn ?_)
    refine w_drawW (fun β => [⟨32, [], [], [], noW (_), false, [], []⟩, ⟨33, [], [], [], noW (_), false, [], []⟩, ⟨34, [1], [], [], noW (_), false, [], []⟩, ⟨35, [2], [], [], noW (_), false, [], []⟩, ⟨36, [3], [], [], noW (_), false, [], []⟩, ⟨37, [], [], [], noW (_), false, [], []⟩, ⟨38, [5], [], [], noW (_), false, [], []⟩, ⟨39, [6], [], [], fun w => DetW _ _, false, [], []⟩, ⟨40, [4, 7], [], [(916, _)], fun w => DetW _ _, false, [], []⟩]) [916] [6, 9] [⟨32, [], [], false, [], []⟩, ⟨33, [], [], false, [], []⟩, ⟨34, [1], [], false, [], []⟩, ⟨35, [2], [], false, [], []⟩, ⟨36, [3], [], false, [], []⟩, ⟨37, [], [], false, [], []⟩, ⟨38, [5], [], false, [], []⟩, ⟨39, [6], [], false, [], []⟩, ⟨40, [4, 7], [], false, [], []⟩] [[], [], [], [], [], [], [], [], [7]] [[], [], [], [], [], [], [], [], [(916, _)]] tMixtk (fun _ => by rfl) (fun _ => by rfl) (by kernel_rfl) (by kernel_rfl) (by rfl) (by rfl)
        (fun β => ⟨.p rfl (by intro X; exact op_move rfl),
        ⟨.p rfl (by intro X; exact op_move rfl),
        ⟨.p rfl (by intro X; rintro _ _ ⟨rfl, rfl⟩; exact op_nilCheck rfl),
        ⟨.p rfl (by intro X; rintro _ _ ⟨rfl, rfl⟩; exact op_fieldAddr (off := 0) rfl tF82_0tk),
        ⟨.p rfl (by intro X; rintro _ _ ⟨rfl, rfl⟩; exact op_load1 rfl tO80tk (Ent.lab (l := 16) rfl (says_cel 0))),
        ⟨.p rfl (by intro X; exact op_loadA rfl tA27tk (Ent.lab (l := 9) rfl (says_cel 0)) (Nat.le_of_ble_eq_true rfl)),
        ⟨.p rfl (by intro X; rintro _ _ ⟨rfl, rfl⟩; exact op_build tB77x rfl (build77 q)),
        ⟨.px rfl (by intro X; rintro _ _ ⟨rfl, rfl⟩; refine OpT.mono (op_buildSlice (enc := encMo) (l := [q]) (lab := 39) tL80x rfl rfl Mo_len (fill80 q)) ?_; rintro _ _ ⟨a39, c39, rfl, rfl⟩; obtain ⟨w, rfl, rfl⟩ : ∃ w : Wt, w.a = a39 ∧ w.c = c39 := ⟨{ a := a39, c := c39 }, rfl, rfl⟩; exact ⟨w, rfl, rfl⟩),
        ⟨.px rfl (by intro X; rintro _ _ ⟨rfl, rfl⟩ _ _ ⟨rfl, rfl⟩; refine OpT.mono (op_append (lab := 916) (lab' := 40) rfl rfl tP80tk enc1Mo (Sl.lab 39 rfl (by simp [maxLen])) (by first | omega | (simp; done) | (simp; omega) | (simp [*]; omega)) (by first | omega | (simp; done) | (simp; omega) | (simp [*]; omega))) ?_; rintro _ _ ⟨a40, c40, rfl, rfl⟩; obtain ⟨w, rfl, rfl⟩ : ∃ w : Wt, w.a = a40 ∧ w.c = c40 := ⟨{ a := a40, c := c40 }, rfl, rfl⟩; exact ⟨w, rfl, rfl⟩),
        trivial⟩⟩⟩⟩⟩⟩⟩⟩⟩)
        (fun β β' => ⟨fun _ => by rfl, ⟨fun _ => by rfl, ⟨fun _ => by rfl, ⟨fun _ => by rfl, ⟨fun _ => by rfl, ⟨fun _ => by rfl, ⟨fun _ => by rfl, ⟨fun _ => by rfl, ⟨fun h => by first | rfl | (simp only [h 7 (by decide)]), trivial⟩⟩⟩⟩⟩⟩⟩⟩⟩) ?_
    intro β
    rintro _ _ ⟨rfl, rfl⟩ _ _ ⟨rfl, rfl⟩ _ _ ⟨rfl, rfl⟩ _ _ ⟨rfl, rfl⟩ _ _ ⟨rfl, rfl⟩ _ _ ⟨rfl, rfl⟩ _ _ ⟨rfl, rfl⟩ _ _ ⟨rfl, rfl⟩ _ _ ⟨rfl, rfl⟩
    generalize (β 7).a = a39
    generalize (β 7).c = c39
    generalize (β 8).a = a40
    generalize (β 8).c = c40
    refine wl_norm (e' := [(0, _), (1, _), (6, _), (7, _), (18, _), (19, _), (20, _), (32, _), (40, _)]) (.cons rfl (.cons rfl (.cons rfl (.cons rfl (.cons rfl (.cons rfl (.cons rfl (.cons rfl (.cons rfl (.nil _)))))))))) (by dsimp only [cond_false, cond_true, List.nil_append, List.cons_append]) ?_
    refine zd rfl (op_nilCheck rfl) (zd rfl (op_fieldAddr (off := 0) rfl tF82_0tk) (wl_op0 [16] rfl rfl rfl (op_store rfl rfl tZ80tk (by rfl) (by rfl) (by exact Nat.le_of_ble_eq_true rfl)) ?_))
    rintro _ _ ⟨rfl, rfl⟩
    refine wl_nil (st_bn (st_tn (w_region (zd rfl (op_add' rfl rfl (by omega)) ?_))))
    refine zm rfl (wl_nil ?_)
    refine st_roundQ (x := (i, ru, a_ru, c_ru, nm)) ((i + 1, _, _, _, _)) [40, 16, 17] rfl (rfl) (.cons rfl (.nil _)) (.cons rfl (.cons rfl (.cons rfl (.cons rfl (.cons rfl (.cons rfl (.nil _))))))) (by
        try dsimp only
        obtain rfl : i = 0 := by omega
        rw [if_pos rfl] at hnm
        subst hru; subst hnm
        exact ⟨by omega, rfl, rfl⟩) (by
        try dsimp only
        omega)
  · -- c21.f
    refine w_exit (st_te ?_)
    refine st_te ?_
    refine st_be (st_tn (w_seq (w_block (w_seq ?_))))
    have hi1 : i = 1 := by omega
    have hru2 : ru = [r] := by rw [hru, hi1]; rfl
    have hnm2 : nm = [(r.name, true)] := by rw [hnm, hi1]; rfl
    subst hru2; subst hnm2
    refine w_region (zm rfl (zd rfl (op_lenM (kt := KStr) (encV := encBv) rfl tQ83tk (Mr.lab 17 rfl)) (zm rfl (zd rfl (op_lenT rfl tS41tk (Sl.ent (g.app _))) (zd rfl (op_val (v' := .bool false) (by rfl) (op_lss rfl rfl)) ?_)))))
    refine za rfl (wl_nil (st_tn (w_cond_f (rfl) ?_)))
    refine w_seq (w_region (zm rfl (zd rfl (op_lss rfl rfl) (zd rfl (op_val (v' := .bool false) (by rfl) (op_move rfl)) ?_))))
    refine wl_wanted_det rfl rfl rfl rfl rfl rfl rfl (op_move rfl) (wl_wanted_det rfl rfl rfl rfl rfl rfl rfl (op_gtr rfl rfl) (zd rfl (op_val (v' := .bool false) (by rfl) (op_pick_f rfl rfl)) ?_))
    refine za rfl (wl_nil (st_tn (w_cond_f (rfl) ?_)))
    refine w_skip (st_bn (st_tn (w_seq (w_region (zm rfl (za rfl (za rfl (wl_nil (st_tn (w_ret (st_ret (vs := [_, _]) [16, 916] Try.results8 ⟨rfl, ⟨rfl, trivial⟩⟩ rfl ?_)))))))))))
    refine ⟨[(lab1, _), (lab2, _)], rfl, ?_⟩
    exact ⟨_, _, _, rfl, rfl⟩
end Go.Proofs.Ytecmigildpkigaa
namespace Go.Proofs.Ytecmigildpkigaa
open Go Go.SL Go.RowKit
set_option linter.unusedVariables false
set_option linter.unusedSimpArgs false
theorem tA46tl : aggB Try.prog 46 4 = true := by kernel_rfl
theorem tF27_1tl : fieldB Try.prog 27 1 1 = true := by kernel_rfl
theorem tF27_2tl : fieldB Try.prog 27 2 2 = true := by kernel_rfl
theorem tF46_0tl : fieldB Try.prog 46 0 0 = true := by kernel_rfl
theorem tF46_1tl : fieldB Try.prog 46 1 1 = true := by kernel_rfl
theorem tF77_0tl : fieldB Try.prog 77 0 0 = true := by kernel_rfl
theorem tMixtl : Try.prog.follows .mixedOrders = true := by kernel_rfl
theorem tO74tl : oneB Try.prog 74 = true := by kernel_rfl
theorem tO9tl : oneB Try.prog 9 = true := by kernel_rfl
theorem tS47tl : sliceB Try.prog 47 46 4 = true := by kernel_rfl
abbrev SmV := ByteArray × ByteArray × Int × Int
def encSs (x : SmV) : List Value := [.string x.1, .string x.2.1, .int .i64 x.2.2.1, .int .i64 x.2.2.2]
set_option maxHeartbeats 400000 in
set_option maxRecDepth 100000 in
theorem indexSm {σ : World} {F : List Res} {a : Option Addr} {c : Nat} {rl : List SmV} {g : Nat} {gn : Func} {fs cs : List Value} {p : SmV → Bool} (h : Sl σ F encSs 4 (.slice a rl.length c) rl)
    (hg : Try.prog.funcs[g]? = some gn) (hgb : gn.body.isSome = true) (hgn : (gn.name == "runtime.NumGoroutine") = false) (hp : ∀ (X : List Res) (r : SmV), FnT Try.prog σ (X ++ F) g (fs ++ [.agg (encSs r).toArray] ++ cs) [] (fun u ρ => u = .bool (p r) ∧ ρ = [])) :
    FnT Try.prog σ F 28 [.slice a rl.length c, .func (.func g) fs.toArray cs.toArray] [] (fun u ρ => u = .int .i64 (match rl.findIdx? p with | some i => (i : Int) | none => -1) ∧ ρ = []) := by
  refine fn_of 19 Try.func28 rfl Try.ntmps28 rfl ?_
  have hle := h.i64
  refine w_seq (w_region (za rfl (wl_nil (st_tn (w_seq (w_seq (w_region (zm rfl (zd rfl (op_lenT rfl tS47tl (Sl.ent (by first | exact Sl.app (by assumption) _ | exact Sl.app (Sl.app (by assumption) _) _))) ?_)))))))))
  refine zm rfl (wl_nil (st_tn (w_block ?_)))
  refine w_loopQ (X := Nat) (fun z => z ≤ rl.length ∧ ∀ r ∈ rl.take z, p r = false) (fun z => [(8, .int .i64 (z))]) (fun _ => []) (fun z => rl.length - z) (0) [(0, _), (1, _), (7, _)] [] [] rfl (rfl) (.cons rfl (.nil _)) (.cons rfl (.cons rfl (.cons rfl (.nil _)))) (by
      try dsimp only
      exact ⟨Nat.zero_le _, by simp⟩) ?_
  rintro i ⟨hi, hn⟩
  refine w_norm2 (by dsimp only [List.cons_append, List.nil_append]) (by dsimp only [List.cons_append, List.nil_append]) ?_
  try dsimp only at hi hn ⊢
  refine w_seq (w_region (zd rfl (op_lss rfl rfl) (wl_nil (st_tn (w_seq (w_cond_d rfl (fun hc9 => ?_) (fun hc9 => ?_)))))))
  · -- c9.t
    obtain ⟨r, hr⟩ := getE (l := rl) (i := i) (by omega)
    have hlt := ltE hr
    refine w_skip (st_tn (w_seq (w_block (w_seq (w_region (zm rfl (za rfl (wl_nil (st_tn (w_seq (w_region (zm rfl (zm rfl ?_)))))))))))))
    refine zm rfl (zd rfl (op_idx rfl rfl tS47tl (Sl.ent (by first | exact Sl.app (by assumption) _ | exact Sl.app (Sl.app (by assumption) _) _)) (by omega)) ?_)
    refine zd rfl (op_ldxA rfl tA46tl (by first | exact Sl.app (by assumption) _ | exact Sl.app (Sl.app (by assumption) _) _) (by assumption) (by rfl) (by rfl)) ?_
    refine zd rfl (op_fnv hg hgb hgn rfl rfl (hp _ r)) (wl_nil (st_tn (w_cond rfl (fun hc16 => ?_) (fun hc16 => ?_))))
    · -- c16.t
      refine w_seq (w_region (zm rfl (za rfl (wl_nil (st_tn (w_ret (st_br (st_tr (st_tr (st_br (st_tr (st_ret (vs := [_]) [] Try.results28 ⟨rfl, trivial⟩ rfl ?_))))))))))))
      refine ⟨_, rfl, ?_⟩
      refine ⟨?_, rfl⟩
      have : rl.findIdx? p = some i := by
        rw [List.findIdx?_eq_some_iff_getElem]
        obtain ⟨hlt', hge⟩ := List.getElem?_eq_some_iff.1 hr
        refine ⟨hlt', by rw [hge]; exact hc16, fun j hj => ?_⟩
        rw [hn _ (List.mem_take_iff_getElem.2 ⟨j, by omega, rfl⟩)]; simp
      rw [this]; rfl
    · -- c16.f
      refine w_skip (st_bn (st_tn (w_region (zd rfl (op_add' rfl rfl (by omega)) ?_))))
      refine zm rfl (wl_nil ?_)
      refine st_roundQ (x := i) (i + 1) [] rfl (rfl) (.cons rfl (.nil _)) (.cons rfl (.cons rfl (.cons rfl (.nil _)))) (by
          try dsimp only
          refine ⟨by omega, by rw [take_snoc hr]; intro q hq; rcases List.mem_append.1 hq with hq | hq; (· exact hn q hq); (· simp at hq; subst hq; exact hc16)⟩) (by
          try dsimp only
          omega)
  · -- c9.f
    refine w_exit (st_te ?_)
    refine st_te ?_
    refine st_be (st_tn (w_seq (w_region (za rfl (wl_nil (st_tn (w_ret (st_ret (vs := [_]) [] Try.results28 ⟨rfl, trivial⟩ rfl ?_))))))))
    refine ⟨_, rfl, ?_⟩
    refine ⟨?_, rfl⟩; rw [take_all (by omega)] at hn
    have : rl.findIdx? p = none := by rw [List.findIdx?_eq_none_iff]; exact hn
    rw [this]; rfl
theorem rule_ent0 {σ : World} {F : List Res} {b : Nat} {r : RuV} {ring : RingV} {n h t : Int} {tl : List Value} (hm : Ent σ F (At ⟨b, 0, none⟩ (encG r ring n h t tl))) : Ent σ F (At (((⟨b, 0, none⟩ : Addr).add 0).add 0) (.string r.name :: (encG r ring n h t tl).drop 1)) := (hm.fld 0).fld 0
theorem rule_ent1 {σ : World} {F : List Res} {b : Nat} {r : RuV} {ring : RingV} {n h t : Int} {tl : List Value} (hm : Ent σ F (At ⟨b, 0, none⟩ (encG r ring n h t tl))) : Ent σ F (At (((⟨b, 0, none⟩ : Addr).add 0).add 1) (.string r.svc :: (encG r ring n h t tl).drop 2)) := (hm.fld 0).fld 1
theorem rule_ent2 {σ : World} {F : List Res} {b : Nat} {r : RuV} {ring : RingV} {n h t : Int} {tl : List Value} (hm : Ent σ F (At ⟨b, 0, none⟩ (encG r ring n h t tl))) : Ent σ F (At (((⟨b, 0, none⟩ : Addr).add 0).add 2) (.string r.op :: (encG r ring n h t tl).drop 3)) := (hm.fld 0).fld 2
theorem tO9x : oneB Try.prog 9 = true := by kernel_rfl
set_option maxHeartbeats 400000 in
set_option maxRecDepth 100000 in
theorem same_any {σ : World} {F : List Res} {q : Addr} {b : Nat} {r : RuV} {ring : RingV} {n h t : Int} {tl : List Value} (x : SmV) (hq : Ent σ F (At q [.pointer (some ⟨b, 0, none⟩)])) (hm : Ent σ F (At ⟨b, 0, none⟩ (encG r ring n h t tl))) :
    FnT Try.prog σ F 29 [.agg (encSs x).toArray, .pointer (some q)] [] (fun u ρ => u = .bool (decide (x.1 = r.svc ∧ x.2.1 = r.op)) ∧ ρ = []) := by
  refine fn_of 22 Try.func29 rfl Try.ntmps29 rfl ?_
  refine w_seq (w_region (wl_op [] rfl rfl rfl rfl (op_box (T := 46) (l := 2) rfl) ?_))
  rintro _ _ ⟨b2, rfl, rfl⟩
  refine za rfl (wl_nil (st_tn (w_seq ?_)))
  by_cases hA : x.1 = r.svc
  · -- hA True
    refine w_drawW (fun β => [⟨4, [], [], [], noW (_), false, [], []⟩, ⟨5, [0], [], [], noW (_), false, [], []⟩, ⟨6, [], [], [], noW (_), false, [], []⟩, ⟨7, [2], [], [], noW (_), false, [], []⟩, ⟨8, [3], [], [], noW (_), false, [], []⟩, ⟨9, [4], [], [], noW (_), false, [], []⟩, ⟨10, [5], [], [], noW (_), false, [], []⟩, ⟨11, [1, 6], [], [], noW (_), false, [], []⟩, ⟨12, [7], [], [], noW (_), false, [], []⟩, ⟨13, [], [], [], noW (_), false, [], []⟩, ⟨14, [9], [], [], noW (_), false, [], []⟩, ⟨15, [], [], [], noW (_), false, [], []⟩, ⟨16, [11], [], [], noW (_), false, [], []⟩, ⟨17, [12], [], [], noW (_), false, [], []⟩, ⟨18, [13], [], [], noW (_), false, [], []⟩, ⟨19, [14], [], [], noW (_), false, [], []⟩, ⟨20, [10, 15], [], [], noW (_), false, [], []⟩, ⟨21, [8, 16], [], [], noW (_), false, [], []⟩]) [] [2, 1] [⟨4, [], [], false, [], []⟩, ⟨5, [0], [], false, [], []⟩, ⟨6, [], [], false, [], []⟩, ⟨7, [2], [], false, [], []⟩, ⟨8, [3], [], false, [], []⟩, ⟨9, [4], [], false, [], []⟩, ⟨10, [5], [], false, [], []⟩, ⟨11, [1, 6], [], false, [], []⟩, ⟨12, [7], [], false, [], []⟩, ⟨13, [], [], false, [], []⟩, ⟨14, [9], [], false, [], []⟩, ⟨15, [], [], false, [], []⟩, ⟨16, [11], [], false, [], []⟩, ⟨17, [12], [], false, [], []⟩, ⟨18, [13], [], false, [], []⟩, ⟨19, [14], [], false, [], []⟩, ⟨20, [10, 15], [], false, [], []⟩, ⟨21, [8, 16], [], false, [], []⟩] [[], [], [], [], [], [], [], [], [], [], [], [], [], [], [], [], [], []] [[], [], [], [], [], [], [], [], [], [], [], [], [], [], [], [], [], []] tMixtl (fun _ => by rfl) (fun _ => by rfl) (by kernel_rfl) (by kernel_rfl) (by rfl) (by rfl)
        (fun β => ⟨.p rfl (by intro X; exact op_fieldAddr (off := 0) rfl tF46_0tl),
        ⟨.p rfl (by intro X; rintro _ _ ⟨rfl, rfl⟩; exact op_load1 rfl tO9tl (Ent.lab (l := 2) rfl (says_cel 0))),
        ⟨.p rfl (by intro X; exact op_load1 rfl tO74tl (Ent.app (Ent.app hq X) _)),
        ⟨.p rfl (by intro X; rintro _ _ ⟨rfl, rfl⟩; exact op_nilCheck rfl),
        ⟨.p rfl (by intro X; rintro _ _ ⟨rfl, rfl⟩; exact op_fieldAddr (off := 0) rfl tF77_0tl),
        ⟨.p rfl (by intro X; rintro _ _ ⟨rfl, rfl⟩; exact op_fieldAddr (off := 1) rfl tF27_1tl),
        ⟨.p rfl (by intro X; rintro _ _ ⟨rfl, rfl⟩; exact op_load1 rfl tO9x (rule_ent1 (Ent.app (Ent.app hm X) _))),
        ⟨.p rfl (by intro X; rintro _ _ ⟨rfl, rfl⟩ _ _ ⟨rfl, rfl⟩; exact op_eqStr rfl rfl),
        ⟨.p rfl (by intro X; rintro _ _ ⟨rfl, rfl⟩; exact op_move rfl),
        ⟨.w rfl rfl rfl (by rintro _ _ ⟨rfl, rfl⟩; first | rfl | (exact congrArg Value.bool (decide_eq_true (by omega))) | (exact congrArg Value.bool (decide_eq_false (by omega))) | (simp; done) | (simp; omega) | (simp [*]; done)) (by intro X; exact op_fieldAddr (off := 1) rfl tF46_1tl),
        ⟨.w rfl rfl rfl (by rintro _ _ ⟨rfl, rfl⟩; first | rfl | (exact congrArg Value.bool (decide_eq_true (by omega))) | (exact congrArg Value.bool (decide_eq_false (by omega))) | (simp; done) | (simp; omega) | (simp [*]; done)) (by intro X; rintro _ _ ⟨rfl, rfl⟩; exact op_load1 rfl tO9tl (Ent.lab (l := 2) rfl (says_cel 1))),
        ⟨.w rfl rfl rfl (by rintro _ _ ⟨rfl, rfl⟩; first | rfl | (exact congrArg Value.bool (decide_eq_true (by omega))) | (exact congrArg Value.bool (decide_eq_false (by omega))) | (simp; done) | (simp; omega) | (simp [*]; done)) (by intro X; exact op_load1 rfl tO74tl (Ent.app (Ent.app hq X) _)),
        ⟨.w rfl rfl rfl (by rintro _ _ ⟨rfl, rfl⟩; first | rfl | (exact congrArg Value.bool (decide_eq_true (by omega))) | (exact congrArg Value.bool (decide_eq_false (by omega))) | (simp; done) | (simp; omega) | (simp [*]; done)) (by intro X; rintro _ _ ⟨rfl, rfl⟩; exact op_nilCheck rfl),
        ⟨.w rfl rfl rfl (by rintro _ _ ⟨rfl, rfl⟩; first | rfl | (exact congrArg Value.bool (decide_eq_true (by omega))) | (exact congrArg Value.bool (decide_eq_false (by omega))) | (simp; done) | (simp; omega) | (simp [*]; done)) (by intro X; rintro _ _ ⟨rfl, rfl⟩; exact op_fieldAddr (off := 0) rfl tF77_0tl),
        ⟨.w rfl rfl rfl (by rintro _ _ ⟨rfl, rfl⟩; first | rfl | (exact congrArg Value.bool (decide_eq_true (by omega))) | (exact congrArg Value.bool (decide_eq_false (by omega))) | (simp; done) | (simp; omega) | (simp [*]; done)) (by intro X; rintro _ _ ⟨rfl, rfl⟩; exact op_fieldAddr (off := 2) rfl tF27_2tl),
        ⟨.w rfl rfl rfl (by rintro _ _ ⟨rfl, rfl⟩; first | rfl | (exact congrArg Value.bool (decide_eq_true (by omega))) | (exact congrArg Value.bool (decide_eq_false (by omega))) | (simp; done) | (simp; omega) | (simp [*]; done)) (by intro X; rintro _ _ ⟨rfl, rfl⟩; exact op_load1 rfl tO9x (rule_ent2 (Ent.app (Ent.app hm X) _))),
        ⟨.w rfl rfl rfl (by rintro _ _ ⟨rfl, rfl⟩; first | rfl | (exact congrArg Value.bool (decide_eq_true (by omega))) | (exact congrArg Value.bool (decide_eq_false (by omega))) | (simp; done) | (simp; omega) | (simp [*]; done)) (by intro X; rintro _ _ ⟨rfl, rfl⟩ _ _ ⟨rfl, rfl⟩; exact op_eqStr rfl rfl),
        ⟨.p rfl (by intro X; rintro _ _ ⟨rfl, rfl⟩ _ _ ⟨rfl, rfl⟩; exact op_pick_t (by first | rfl | (show some (Value.bool (decide _)) = _; rw [decide_eq_true (by omega)]) | (show some (Value.bool (decide _)) = _; rw [decide_eq_false (by omega)]) | (simp [ev, lk]; done) | (simp [ev, lk]; omega) | (simp [ev, lk, *]; done)) rfl),
        trivial⟩⟩⟩⟩⟩⟩⟩⟩⟩⟩⟩⟩⟩⟩⟩⟩⟩⟩)
        (fun β β' => ⟨fun _ => by rfl, ⟨fun _ => by rfl, ⟨fun _ => by rfl, ⟨fun _ => by rfl, ⟨fun _ => by rfl, ⟨fun _ => by rfl, ⟨fun _ => by rfl, ⟨fun _ => by rfl, ⟨fun _ => by rfl, ⟨fun _ => by rfl, ⟨fun _ => by rfl, ⟨fun _ => by rfl, ⟨fun _ => by rfl, ⟨fun _ => by rfl, ⟨fun _ => by rfl, ⟨fun _ => by rfl, ⟨fun _ => by rfl, ⟨fun _ => by rfl, trivial⟩⟩⟩⟩⟩⟩⟩⟩⟩⟩⟩⟩⟩⟩⟩⟩⟩⟩) ?_
    intro β
    rintro _ _ ⟨rfl, rfl⟩ _ _ ⟨rfl, rfl⟩ _ _ ⟨rfl, rfl⟩ _ _ ⟨rfl, rfl⟩ _ _ ⟨rfl, rfl⟩ _ _ ⟨rfl, rfl⟩ _ _ ⟨rfl, rfl⟩ _ _ ⟨rfl, rfl⟩ _ _ ⟨rfl, rfl⟩ _ _ ⟨rfl, rfl⟩ _ _ ⟨rfl, rfl⟩ _ _ ⟨rfl, rfl⟩ _ _ ⟨rfl, rfl⟩ _ _ ⟨rfl, rfl⟩ _ _ ⟨rfl, rfl⟩ _ _ ⟨rfl, rfl⟩ _ _ ⟨rfl, rfl⟩ _ _ ⟨rfl, rfl⟩
    refine wl_norm (e' := [(21, _)]) (.cons rfl (.nil _)) (by dsimp only [cond_false, cond_true, List.nil_append, List.cons_append]) ?_
    refine za rfl (wl_nil (st_tn (w_ret (st_ret (vs := [_]) [] Try.results29 ⟨rfl, trivial⟩ rfl ?_))))
    refine ⟨_, rfl, ?_⟩
    refine ⟨?_, rfl⟩
    first | (simp [retv, *]; done) | (simp_all [retv]; done)
  · -- hA False
    refine w_drawW (fun β => [⟨4, [], [], [], noW (_), false, [], []⟩, ⟨5, [0], [], [], noW (_), false, [], []⟩, ⟨6, [], [], [], noW (_), false, [], []⟩, ⟨7, [2], [], [], noW (_), false, [], []⟩, ⟨8, [3], [], [], noW (_), false, [], []⟩, ⟨9, [4], [], [], noW (_), false, [], []⟩, ⟨10, [5], [], [], noW (_), false, [], []⟩, ⟨11, [1, 6], [], [], noW (_), false, [], []⟩, ⟨12, [7], [], [], noW (_), false, [], []⟩, ⟨13, [], [], [], noW (Det undef), false, [], []⟩, ⟨14, [], [], [], noW (Det undef), false, [], []⟩, ⟨15, [], [], [], noW (Det undef), false, [], []⟩, ⟨16, [], [], [], noW (Det undef), false, [], []⟩, ⟨17, [], [], [], noW (Det undef), false, [], []⟩, ⟨18, [], [], [], noW (Det undef), false, [], []⟩, ⟨19, [], [], [], noW (Det undef), false, [], []⟩, ⟨20, [], [], [], noW (Det undef), false, [], []⟩, ⟨21, [8, 16], [], [], noW (_), false, [], []⟩]) [] [2, 1] [⟨4, [], [], false, [], []⟩, ⟨5, [0], [], false, [], []⟩, ⟨6, [], [], false, [], []⟩, ⟨7, [2], [], false, [], []⟩, ⟨8, [3], [], false, [], []⟩, ⟨9, [4], [], false, [], []⟩, ⟨10, [5], [], false, [], []⟩, ⟨11, [1, 6], [], false, [], []⟩, ⟨12, [7], [], false, [], []⟩, ⟨13, [], [], false, [], []⟩, ⟨14, [], [], false, [], []⟩, ⟨15, [], [], false, [], []⟩, ⟨16, [], [], false, [], []⟩, ⟨17, [], [], false, [], []⟩, ⟨18, [], [], false, [], []⟩, ⟨19, [], [], false, [], []⟩, ⟨20, [], [], false, [], []⟩, ⟨21, [8, 16], [], false, [], []⟩] [[], [], [], [], [], [], [], [], [], [], [], [], [], [], [], [], [], []] [[], [], [], [], [], [], [], [], [], [], [], [], [], [], [], [], [], []] tMixtl (fun _ => by rfl) (fun _ => by rfl) (by kernel_rfl) (by kernel_rfl) (by rfl) (by rfl)
        (fun β => ⟨.p rfl (by intro X; exact op_fieldAddr (off := 0) rfl tF46_0tl),
        ⟨.p rfl (by intro X; rintro _ _ ⟨rfl, rfl⟩; exact op_load1 rfl tO9tl (Ent.lab (l := 2) rfl (says_cel 0))),
        ⟨.p rfl (by intro X; exact op_load1 rfl tO74tl (Ent.app (Ent.app hq X) _)),
        ⟨.p rfl (by intro X; rintro _ _ ⟨rfl, rfl⟩; exact op_nilCheck rfl),
        ⟨.p rfl (by intro X; rintro _ _ ⟨rfl, rfl⟩; exact op_fieldAddr (off := 0) rfl tF77_0tl),
        ⟨.p rfl (by intro X; rintro _ _ ⟨rfl, rfl⟩; exact op_fieldAddr (off := 1) rfl tF27_1tl),
        ⟨.p rfl (by intro X; rintro _ _ ⟨rfl, rfl⟩; exact op_load1 rfl tO9x (rule_ent1 (Ent.app (Ent.app hm X) _))),
        ⟨.p rfl (by intro X; rintro _ _ ⟨rfl, rfl⟩ _ _ ⟨rfl, rfl⟩; exact op_eqStr rfl rfl),
        ⟨.p rfl (by intro X; rintro _ _ ⟨rfl, rfl⟩; exact op_move rfl),
        ⟨.u rfl rfl rfl (by rintro _ _ ⟨rfl, rfl⟩; exact congrArg (offB true) (by first | rfl | (exact congrArg Value.bool (decide_eq_true (by omega))) | (exact congrArg Value.bool (decide_eq_false (by omega))) | (simp; done) | (simp; omega) | (simp [*]; done) : _ = Value.bool false)) ⟨rfl, rfl⟩ rfl rfl,
        ⟨.u rfl rfl rfl (by rintro _ _ ⟨rfl, rfl⟩; exact congrArg (offB true) (by first | rfl | (exact congrArg Value.bool (decide_eq_true (by omega))) | (exact congrArg Value.bool (decide_eq_false (by omega))) | (simp; done) | (simp; omega) | (simp [*]; done) : _ = Value.bool false)) ⟨rfl, rfl⟩ rfl rfl,
        ⟨.u rfl rfl rfl (by rintro _ _ ⟨rfl, rfl⟩; exact congrArg (offB true) (by first | rfl | (exact congrArg Value.bool (decide_eq_true (by omega))) | (exact congrArg Value.bool (decide_eq_false (by omega))) | (simp; done) | (simp; omega) | (simp [*]; done) : _ = Value.bool false)) ⟨rfl, rfl⟩ rfl rfl,
        ⟨.u rfl rfl rfl (by rintro _ _ ⟨rfl, rfl⟩; exact congrArg (offB true) (by first | rfl | (exact congrArg Value.bool (decide_eq_true (by omega))) | (exact congrArg Value.bool (decide_eq_false (by omega))) | (simp; done) | (simp; omega) | (simp [*]; done) : _ = Value.bool false)) ⟨rfl, rfl⟩ rfl rfl,
        ⟨.u rfl rfl rfl (by rintro _ _ ⟨rfl, rfl⟩; exact congrArg (offB true) (by first | rfl | (exact congrArg Value.bool (decide_eq_true (by omega))) | (exact congrArg Value.bool (decide_eq_false (by omega))) | (simp; done) | (simp; omega) | (simp [*]; done) : _ = Value.bool false)) ⟨rfl, rfl⟩ rfl rfl,
        ⟨.u rfl rfl rfl (by rintro _ _ ⟨rfl, rfl⟩; exact congrArg (offB true) (by first | rfl | (exact congrArg Value.bool (decide_eq_true (by omega))) | (exact congrArg Value.bool (decide_eq_false (by omega))) | (simp; done) | (simp; omega) | (simp [*]; done) : _ = Value.bool false)) ⟨rfl, rfl⟩ rfl rfl,
        ⟨.u rfl rfl rfl (by rintro _ _ ⟨rfl, rfl⟩; exact congrArg (offB true) (by first | rfl | (exact congrArg Value.bool (decide_eq_true (by omega))) | (exact congrArg Value.bool (decide_eq_false (by omega))) | (simp; done) | (simp; omega) | (simp [*]; done) : _ = Value.bool false)) ⟨rfl, rfl⟩ rfl rfl,
        ⟨.u rfl rfl rfl (by rintro _ _ ⟨rfl, rfl⟩; exact congrArg (offB true) (by first | rfl | (exact congrArg Value.bool (decide_eq_true (by omega))) | (exact congrArg Value.bool (decide_eq_false (by omega))) | (simp; done) | (simp; omega) | (simp [*]; done) : _ = Value.bool false)) ⟨rfl, rfl⟩ rfl rfl,
        ⟨.p rfl (by intro X; rintro _ _ ⟨rfl, rfl⟩ _ _ ⟨rfl, rfl⟩; exact op_pick_f (by first | rfl | (show some (Value.bool (decide _)) = _; rw [decide_eq_true (by omega)]) | (show some (Value.bool (decide _)) = _; rw [decide_eq_false (by omega)]) | (simp [ev, lk]; done) | (simp [ev, lk]; omega) | (simp [ev, lk, *]; done)) rfl),
        trivial⟩⟩⟩⟩⟩⟩⟩⟩⟩⟩⟩⟩⟩⟩⟩⟩⟩⟩)
        (fun β β' => ⟨fun _ => by rfl, ⟨fun _ => by rfl, ⟨fun _ => by rfl, ⟨fun _ => by rfl, ⟨fun _ => by rfl, ⟨fun _ => by rfl, ⟨fun _ => by rfl, ⟨fun _ => by rfl, ⟨fun _ => by rfl, ⟨fun _ => by rfl, ⟨fun _ => by rfl, ⟨fun _ => by rfl, ⟨fun _ => by rfl, ⟨fun _ => by rfl, ⟨fun _ => by rfl, ⟨fun _ => by rfl, ⟨fun _ => by rfl, ⟨fun _ => by rfl, trivial⟩⟩⟩⟩⟩⟩⟩⟩⟩⟩⟩⟩⟩⟩⟩⟩⟩⟩) ?_
    intro β
    rintro _ _ ⟨rfl, rfl⟩ _ _ ⟨rfl, rfl⟩ _ _ ⟨rfl, rfl⟩ _ _ ⟨rfl, rfl⟩ _ _ ⟨rfl, rfl⟩ _ _ ⟨rfl, rfl⟩ _ _ ⟨rfl, rfl⟩ _ _ ⟨rfl, rfl⟩ _ _ ⟨rfl, rfl⟩ _ _ ⟨rfl, rfl⟩ _ _ ⟨rfl, rfl⟩ _ _ ⟨rfl, rfl⟩ _ _ ⟨rfl, rfl⟩ _ _ ⟨rfl, rfl⟩ _ _ ⟨rfl, rfl⟩ _ _ ⟨rfl, rfl⟩ _ _ ⟨rfl, rfl⟩ _ _ ⟨rfl, rfl⟩
    refine wl_norm (e' := [(21, _)]) (.cons rfl (.nil _)) (by dsimp only [cond_false, cond_true, List.nil_append, List.cons_append]) ?_
    refine za rfl (wl_nil (st_tn (w_ret (st_ret (vs := [_]) [] Try.results29 ⟨rfl, trivial⟩ rfl ?_))))
    refine ⟨_, rfl, ?_⟩
    refine ⟨?_, rfl⟩
    first | (simp [retv, *]; done) | (simp_all [retv]; done)
end Go.Proofs.Ytecmigildpkigaa
namespace Go.Proofs.Ytecmigildpkigaa
open Go Go.SL Go.RowKit
set_option linter.unusedVariables false
set_option linter.unusedSimpArgs false
theorem tF27_0tm : fieldB Try.prog 27 0 0 = true := by kernel_rfl
theorem tF77_0tm : fieldB Try.prog 77 0 0 = true := by kernel_rfl
theorem tF77_4tm : fieldB Try.prog 77 4 1034 = true := by kernel_rfl
theorem tF82_0tm : fieldB Try.prog 82 0 0 = true := by kernel_rfl
theorem tO80tm : oneB Try.prog 80 = true := by kernel_rfl
theorem tS80x : sliceB Try.prog 80 77 1035 = true := by kernel_rfl
theorem G_tl {r : RuV} {ring : RingV} {n h t : Int} {tl : List Value} : encG r ring n h t tl = encG r ring n h t [] ++ tl := by unfold encG; simp
theorem eng_sl {σ : World} {F : List Res} {g c : Nat} {r : RuV} {ring : RingV} {n h t : Int} {tl : List Value} (hm : Ent σ F (At ⟨g, 0, none⟩ (encG r ring n h t tl))) (hr : ring.length = 256) (hc : 1 ≤ c) : Ent σ F (slR 1035 (.slice (some ⟨g, 0, none⟩) 1 c) [encG r ring n h t []]) := fun w hw => by
  obtain ⟨b, o, hp, hcell⟩ := hm w hw
  simp only [Addr.mk.injEq, and_true] at hp
  obtain ⟨rfl, rfl⟩ := hp
  refine ⟨fun x hx => ?_, by simp [maxLen], .inr ⟨g, 0, c, rfl, hc, fun i v hv => ?_⟩⟩
  · rw [List.mem_singleton] at hx; subst hx; exact G_len hr
  · rw [List.flatten_singleton] at hv
    have h1 := hcell i v (by rw [G_tl, List.getElem?_append_left (List.getElem?_eq_some_iff.1 hv).1]; exact hv)
    simpa using h1
set_option maxHeartbeats 400000 in
set_option maxRecDepth 100000 in
theorem state_any {σ : World} {F : List Res} {b g c : Nat} {r : RuV} {ring : RingV} {n h t slot : Int} {tl : List Value} (hE : Ent σ F (At ⟨b, 0, none⟩ [.slice (some ⟨g, 0, none⟩) 1 c, .int .i64 slot])) (hm : Ent σ F (At ⟨g, 0, none⟩ (encG r ring n h t tl))) (hr : ring.length = 256) (hc : 1 ≤ c) :
    FnT Try.prog σ F 10 [.pointer (some ⟨b, 0, none⟩), .string r.name] [] (fun u ρ => u = .tuple #[.int .i64 t, .int .i64 0] ∧ ρ = []) := by
  refine fn_of 37 Try.func10 rfl Try.ntmps10 rfl ?_
  refine w_seq (w_region (za rfl (za rfl (wl_nil (st_tn (w_seq (w_seq (w_region (zm rfl (zd rfl (op_val (v' := .bool false) (by rfl) (op_eqPtr rfl Try.underlying38)) ?_))))))))))
  refine wl_nil (st_tn (w_cond_f (rfl) ?_))
  refine w_skip (st_tn (w_seq (w_seq (w_region (zm rfl (zd rfl (op_nilCheck rfl) (zd rfl (op_fieldAddr (off := 0) rfl tF82_0tm) (zd rfl (op_load1 rfl tO80tm (Ent.app (Ent.fld hE 0) _)) (zd rfl (op_len rfl tS80x (eng_sl (Ent.app hm _) hr hc)) (zm rfl (wl_nil (st_tn (w_block ?_)))))))))))))
  refine w_loopQ (X := Nat) (fun z => z ≤ 0) (fun z => [(14, .int .i64 (z))]) (fun _ => []) (fun z => 1 - z) (0) [(0, _), (1, _), (13, _)] [] [] rfl (rfl) (.cons rfl (.nil _)) (.cons rfl (.cons rfl (.cons rfl (.nil _)))) (by
      try dsimp only
      exact Nat.zero_le _) ?_
  rintro i hi
  refine w_norm2 (by dsimp only [List.cons_append, List.nil_append]) (by dsimp only [List.cons_append, List.nil_append]) ?_
  try dsimp only at hi ⊢
  refine w_seq (w_region (zd rfl (op_lss rfl rfl) (wl_nil (st_tn (w_seq (w_cond_d rfl (fun hc15 => ?_) (fun hc15 => ?_)))))))
  · -- c15.t
    obtain rfl : i = 0 := by omega
    refine w_skip (st_tn (w_seq (w_block (w_seq (w_region (zm rfl (za rfl (wl_nil (st_tn (w_seq (w_region (zm rfl (zd rfl (op_nilCheck rfl) ?_)))))))))))))
    refine zd rfl (op_fieldAddr (off := 0) rfl tF82_0tm) (zd rfl (op_load1 rfl tO80tm (Ent.app (Ent.fld hE 0) _)) (zm rfl (zd rfl (op_val (v' := .pointer (some ⟨g, 0, none⟩)) rfl (op_indexAddr (i := 0) rfl rfl tS80x (eng_sl (Ent.app hm _) hr hc) (by simp))) ?_)))
    refine zd rfl (op_fieldAddr (off := 0) rfl tF77_0tm) (zd rfl (op_fieldAddr (off := 0) rfl tF27_0tm) (zd rfl (op_load1 rfl tO9x (rule_ent0 (Ent.app hm _))) (zm rfl (zd rfl (op_val (v' := .bool true) (by simp) (op_eqStr rfl rfl)) ?_))))
    refine wl_nil (st_tn (w_cond_t (rfl) ?_))
    refine w_seq (w_region (zm rfl (zd rfl (op_nilCheck rfl) (zd rfl (op_fieldAddr (off := 0) rfl tF82_0tm) (zd rfl (op_load1 rfl tO80tm (Ent.app (Ent.fld hE 0) _)) (zm rfl (zd rfl (op_val (v' := .pointer (some ⟨g, 0, none⟩)) rfl (op_indexAddr (i := 0) rfl rfl tS80x (eng_sl (Ent.app hm _) hr hc) (by simp))) ?_)))))))
    refine zd rfl (op_fieldAddr (off := 1034) rfl tF77_4tm) (zd rfl (op_load1 rfl tO3x (state_ent (Ent.app hm _) hr)) (za rfl (za rfl (wl_nil (st_tn (w_ret (st_br (st_tr (st_tr (st_br (st_tr (st_ret (vs := [_, _]) [] Try.results10 ⟨rfl, ⟨rfl, trivial⟩⟩ rfl ?_))))))))))))
    refine ⟨_, rfl, ?_⟩
    exact ⟨rfl, rfl⟩
  · -- c15.f
    exact absurd (show ((i : Nat) : Int) < 1 by omega) hc15
end Go.Proofs.Ytecmigildpkigaa
namespace Go.Proofs.Ytecmigildpkigaa
open Go Go.SL Go.RowKit
set_option linter.unusedVariables false
set_option linter.unusedSimpArgs false
theorem tA46tn : aggB Try.prog 46 4 = true := by kernel_rfl
theorem tB88tn : placesB Try.prog 88 = some ([(0, 1), (1, 1), (2, 1), (3, 1)], [Value.string .empty, Value.int .i64 0, Value.int .i64 0, Value.int .i64 0]) := by kernel_rfl
theorem tF27_0tn : fieldB Try.prog 27 0 0 = true := by kernel_rfl
theorem tF46_2tn : fieldB Try.prog 46 2 2 = true := by kernel_rfl
theorem tF46_3tn : fieldB Try.prog 46 3 3 = true := by kernel_rfl
theorem tF77_0tn : fieldB Try.prog 77 0 0 = true := by kernel_rfl
theorem tF77_4tn : fieldB Try.prog 77 4 1034 = true := by kernel_rfl
theorem tF82_0tn : fieldB Try.prog 82 0 0 = true := by kernel_rfl
theorem tF82_1tn : fieldB Try.prog 82 1 1 = true := by kernel_rfl
theorem tL42_1tn : zerosB Try.prog 42 88 4 1 = some [Value.string .empty, Value.int .i64 0, Value.int .i64 0, Value.int .i64 0] := by kernel_rfl
theorem tMixtn : Try.prog.follows .mixedOrders = true := by kernel_rfl
theorem tN46tn : (Try.prog.info? 46).bind (·.zero) = some (Value.agg #[Value.string .empty, Value.string .empty, Value.int .i64 0, Value.int .i64 0]) := by kernel_rfl
theorem tN74tn : (Try.prog.info? 74).bind (·.zero) = some (Value.pointer none) := by kernel_rfl
theorem tO3tn : oneB Try.prog 3 = true := by kernel_rfl
theorem tO74tn : oneB Try.prog 74 = true := by kernel_rfl
theorem tP42tn : appB Try.prog 42 88 4 40 = true := by kernel_rfl
theorem tS47tn : sliceB Try.prog 47 46 4 = true := by kernel_rfl
theorem tZ46tn : (Try.prog.info? 46).map (·.size) = some 4 := by kernel_rfl
theorem tZ74tn : (Try.prog.info? 74).map (·.size) = some 1 := by kernel_rfl
abbrev TnV := ByteArray × Int × Int × Int
def encTn (x : TnV) : List Value := [.string x.1, .int .i64 x.2.1, .int .i64 x.2.2.1, .int .i64 x.2.2.2]
theorem enc1Tn : Enc1 encTn 4 := ⟨fun _ => rfl, fun a u h => by simp only [encTn, List.mem_cons, List.not_mem_nil, or_false] at h; rcases h with rfl | rfl | rfl | rfl <;> rfl⟩
theorem tO80x : oneB Try.prog 80 = true := by kernel_rfl
set_option maxHeartbeats 2000000 in
set_option maxRecDepth 100000 in
theorem obs_any {σ : World} {F : List Res} {b g c : Nat} {r : RuV} {H : RingV} {h st slot : Int} {tl : List Value} {a2 : Option Addr} {c2 : Nat} {sm : SmV} (hS : Sl σ F encSs 4 (.slice a2 1 c2) [sm]) (e1 : sm.1 = r.svc) (e2 : sm.2.1 = r.op) (hrO : RuOk r) (hl : H.length ≤ 100) (hb : ∀ p ∈ H, (0 ≤ p.1 ∧ p.1 ≤ 1000) ∧ 0 ≤ p.2 ∧ p.2 ≤ 1000) (he : 0 ≤ sm.2.2.1 ∧ sm.2.2.1 ≤ sm.2.2.2) (ht : sm.2.2.2 ≤ 1000) (hh : 0 ≤ h ∧ h ≤ 1000000) (hs : 0 ≤ slot ∧ slot ≤ 1000000) (hc : 1 ≤ c) :
    FnT Try.prog σ F 9 [.pointer (some ⟨b, 0, none⟩), .slice a2 1 c2] [(611, cel b [.slice (some ⟨g, 0, none⟩) 1 c, .int .i64 slot] 82), (601, cel g (encG r (ringV H) H.length h st tl) 77)]
      (fun u ρ => ∃ (a : Option Addr) (n m : Nat), u = .tuple #[.slice a n m, .int .i64 0] ∧ ρ = [(611, cel b [.slice (some ⟨g, 0, none⟩) 1 c, .int .i64 (slot + 1)] 82), (601, cel g (encG r (ringV (H ++ [(sm.2.2.1, sm.2.2.2)])) ((H ++ [(sm.2.2.1, sm.2.2.2)]).length : Nat) (heldN r (H ++ [(sm.2.2.1, sm.2.2.2)]) h) (stateN r (H ++ [(sm.2.2.1, sm.2.2.2)]) h) tl) 77)]) := by
  refine fn_of 109 Try.func9 rfl Try.ntmps9 rfl ?_
  have hr := ringV_len (H := H) (by omega)
  have h1l : [sm].length = 1 := rfl
  obtain ⟨H', hH⟩ : ∃ H', H' = H ++ [(sm.2.2.1, sm.2.2.2)] := ⟨_, rfl⟩
  rw [← hH]
  have hl' : H'.length = H.length + 1 := by rw [hH, List.length_append, List.length_singleton]
  have hr' := ringV_len (H := H') (by omega)
  have hfi : [sm].findIdx? (fun x => decide (x.1 = r.svc ∧ x.2.1 = r.op)) = some 0 := by simp [e1, e2]
  refine w_seq (w_region (za rfl (za rfl (wl_nil (st_tn (w_seq (w_seq (w_region (zm rfl (zd rfl (op_val (v' := .bool false) (by rfl) (op_eqPtr rfl Try.underlying38)) ?_))))))))))
  refine wl_nil (st_tn (w_cond_f (rfl) ?_))
  refine w_skip (st_tn (w_seq (w_seq (w_region (zm rfl (zd rfl (op_lenT rfl tS47tn (Sl.ent (hS.app _))) (zm rfl (wl_nil (st_tn (w_block ?_))))))))))
  refine w_loopQ (X := Nat) (fun z => z ≤ 1) (fun z => [(19, .int .i64 (z))]) (fun _ => []) (fun z => 1 - z) (0) [(0, _), (1, _), (17, _), (18, _)] [(611, _), (601, _)] [611, 601] rfl (rfl) (.cons rfl (.nil _)) (.cons rfl (.cons rfl (.cons rfl (.cons rfl (.nil _))))) (by
      try dsimp only
      exact Nat.zero_le _) ?_
  rintro i hi
  refine w_norm2 (by dsimp only [List.cons_append, List.nil_append]) (by dsimp only [List.cons_append, List.nil_append]) ?_
  try dsimp only at hi ⊢
  refine w_seq (w_region (zd rfl (op_lss rfl rfl) (wl_nil (st_tn (w_seq (w_cond_d rfl (fun hc20 => ?_) (fun hc20 => ?_)))))))
  · -- c20.t
    obtain ⟨q, hq⟩ := getE (l := [sm]) (i := i) (by omega)
    have hqs : q = sm := by have := List.mem_of_getElem? hq; simpa using this
    subst hqs
    refine w_skip (st_tn (w_seq (w_block (w_seq (w_region (zd rfl (op_idx rfl rfl tS47tn (Sl.ent (hS.app _)) (by omega)) ?_))))))
    refine zd rfl (op_ldxA rfl tA46tn (hS.app _) (by assumption) (by rfl) (by rfl)) ?_
    refine wl_op [] rfl rfl rfl rfl (op_alloc (l := 7) tN46tn) ?_
    rintro _ _ ⟨b7, rfl, rfl⟩
    refine wl_op0 [7] rfl rfl rfl (op_store rfl rfl tZ46tn (by rfl) (by rfl) (by exact Nat.le_of_ble_eq_true rfl)) ?_
    rintro _ _ ⟨rfl, rfl⟩
    refine wl_nil (st_tn (w_seq (w_region (zd rfl (op_fieldAddr (off := 3) rfl tF46_3tn) (zd rfl (op_load1 rfl tO3tn (Ent.lab (l := 7) rfl (says_cel 3))) (zd rfl (op_val (v' := .bool false) (by rw [decide_eq_false (by omega)]) (op_lss rfl rfl)) ?_))))))
    refine zm rfl (wl_wanted_det rfl rfl rfl rfl rfl rfl rfl (op_fieldAddr (off := 3) rfl tF46_3tn) (wl_wanted_det rfl rfl rfl rfl rfl rfl rfl (op_load1 rfl tO3tn (Ent.lab (l := 7) rfl (says_cel 3))) (wl_wanted_det rfl rfl rfl rfl rfl rfl rfl (op_val (v' := .bool false) (by rw [decide_eq_false (by omega)]) (op_gtr rfl rfl)) ?_)))
    refine zd rfl (op_pick_f rfl rfl) (zm rfl (wl_wanted_det rfl rfl rfl rfl rfl rfl rfl (op_fieldAddr (off := 2) rfl tF46_2tn) (wl_wanted_det rfl rfl rfl rfl rfl rfl rfl (op_load1 rfl tO3tn (Ent.lab (l := 7) rfl (says_cel 2))) (wl_wanted_det rfl rfl rfl rfl rfl rfl rfl (op_val (v' := .bool false) (by rw [decide_eq_false (by omega)]) (op_lss rfl rfl)) ?_))))
    refine zd rfl (op_pick_f rfl rfl) (zm rfl (wl_wanted_det rfl rfl rfl rfl rfl rfl rfl (op_fieldAddr (off := 2) rfl tF46_2tn) (wl_wanted_det rfl rfl rfl rfl rfl rfl rfl (op_load1 rfl tO3tn (Ent.lab (l := 7) rfl (says_cel 2))) (wl_wanted_det rfl rfl rfl rfl rfl rfl rfl (op_fieldAddr (off := 3) rfl tF46_3tn) (wl_wanted_det rfl rfl rfl rfl rfl rfl rfl (op_load1 rfl tO3tn (Ent.lab (l := 7) rfl (says_cel 3))) (wl_wanted_det rfl rfl rfl rfl rfl rfl rfl (op_val (v' := .bool false) (by rw [decide_eq_false (by omega)]) (op_gtr rfl rfl)) ?_))))))
    refine zd rfl (op_pick_f rfl rfl) (wl_nil (st_tn (w_cond_f (rfl) ?_)))
    refine w_skip (st_bn (st_tn (w_region (zd rfl (op_add' rfl rfl (by omega)) ?_))))
    refine zm rfl (wl_nil ?_)
    refine st_roundQ (x := i) (i + 1) [611, 601] rfl (rfl) (.cons rfl (.nil _)) (.cons rfl (.cons rfl (.cons rfl (.cons rfl (.nil _))))) (by
        try dsimp only
        omega) (by
        try dsimp only
        omega)
  · -- c20.f
    refine w_exit (st_te ?_)
    refine st_te ?_
    refine st_be (st_tn (w_seq (w_seq (w_region (zm rfl (zd rfl (op_nilCheck rfl) (zd rfl (op_fieldAddr (off := 1) rfl tF82_1tn) (zd rfl (op_load1 rfl tO3x (Ent.lab (l := 611) rfl (says_cel 1))) (zd rfl (op_val (v' := .bool false) (by rw [decide_eq_false (by omega)]) (op_gtr rfl rfl)) ?_)))))))))
    refine wl_nil (st_tn (w_cond_f (rfl) ?_))
    refine w_skip (st_tn (w_seq (w_region (za rfl (wl_nil (st_tn (w_seq (w_seq (w_region (zm rfl (zd rfl (op_nilCheck rfl) (zd rfl (op_fieldAddr (off := 0) rfl tF82_0tn) (zd rfl (op_load1 rfl tO80x (Ent.lab (l := 611) rfl (says_cel 0))) ?_)))))))))))))
    refine zd rfl (op_len rfl tS80x (eng_sl (Ent.lab (l := 601) rfl says_cel0) hr hc)) (zm rfl (wl_nil (st_tn (w_block (w_emp 8 (slO_nil 88 4) ?_)))))
    refine w_loopQ (X := List TnV × Option Addr × Nat × Nat × RingV × Int × Int) (fun z => z.1.length ≤ z.2.2.2.1 ∧ ((z.2.2.2.1 = 0 ∧ z.2.2.2.2.1 = H ∧ z.2.2.2.2.2.1 = h ∧ z.2.2.2.2.2.2 = st) ∨ (z.2.2.2.1 = 1 ∧ z.2.2.2.2.1 = H' ∧ z.2.2.2.2.2.1 = heldN r H' h ∧ z.2.2.2.2.2.2 = stateN r H' h))) (fun z => [(8, .slice (z.2.1) (z.1).length (z.2.2.1)), (54, .int .i64 (z.2.2.2.1))]) (fun z => [(8, slW 88 encTn 4 (.slice (z.2.1) (z.1).length (z.2.2.1)) (z.1)), (601, cel g (encG r (ringV (z.2.2.2.2.1)) ((z.2.2.2.2.1).length : Nat) (z.2.2.2.2.2.1) (z.2.2.2.2.2.2) tl) 77)]) (fun z => 1 - z.2.2.2.1) (([], none, 0, 0, H, h, st)) [(0, _), (1, _), (53, _)] [(611, _)] [8, 601, 611] rfl (rfl) (.cons rfl (.cons rfl (.nil _))) (.cons rfl (.cons rfl (.cons rfl (.nil _)))) (by
        try dsimp only
        exact ⟨Nat.zero_le _, .inl ⟨rfl, rfl, rfl, rfl⟩⟩) ?_
    rintro ⟨out, a_out, c_out, i, Hx, hx, sx⟩ ⟨hol, hiv⟩
    refine w_norm2 (by dsimp only [List.cons_append, List.nil_append]) (by dsimp only [List.cons_append, List.nil_append]) ?_
    try dsimp only at hol hiv ⊢
    refine w_seq (w_region (zd rfl (op_lss rfl rfl) (wl_nil (st_tn (w_seq (w_cond_d rfl (fun hc55 => ?_) (fun hc55 => ?_)))))))
    · -- c55.t
      obtain ⟨q0, q1, q2, q3⟩ : i = 0 ∧ Hx = H ∧ hx = h ∧ sx = st := hiv.resolve_right (fun h9 => by have h8 := h9.1; have h7 : ((i : Nat) : Int) < 1 := hc55; omega)
      subst q1; subst q2; subst q3
      refine w_skip (st_tn (w_seq (w_block (w_seq (w_region (zm rfl (za rfl (wl_nil (st_tn (w_seq (w_region (zm rfl (zd rfl (op_nilCheck rfl) ?_)))))))))))))
      refine zd rfl (op_fieldAddr (off := 0) rfl tF82_0tn) (zd rfl (op_load1 rfl tO80x (Ent.lab (l := 611) rfl (says_cel 0))) (zd rfl (op_val (v' := .int .i64 ((0 : Nat) : Int)) (by rw [q0]) (op_move rfl)) ?_))
      refine zd rfl (op_val (v' := .pointer (some ⟨g, 0, none⟩)) rfl (op_indexAddr (i := 0) rfl rfl tS80x (eng_sl (Ent.lab (l := 601) rfl says_cel0) hr hc) (by simp))) ?_
      refine wl_op [] rfl rfl rfl rfl (op_alloc (l := 10) tN74tn) ?_
      rintro _ _ ⟨b10, rfl, rfl⟩
      refine wl_op0 [10] rfl rfl rfl (op_store rfl rfl tZ74tn (by rfl) (by rfl) (by exact Nat.le_of_ble_eq_true rfl)) ?_
      rintro _ _ ⟨rfl, rfl⟩
      refine wl_nil (st_tn (w_seq (w_region (wl_op [] rfl rfl rfl rfl (op_alloc (l := 11) tN46tn) ?_))))
      rintro _ _ ⟨b11, rfl, rfl⟩
      refine wl_nil (st_tn (w_seq (w_seq (w_region (zm rfl (zd rfl (op_makeFunc rfl rfl) (zd rfl (op_fn Try.func28 rfl rfl rfl (fn_imp (indexSm (rl := [sm]) (fs := []) (cs := [.pointer (some ⟨b10, 0, none⟩)]) (p := fun x => decide (x.1 = r.svc ∧ x.2.1 = r.op)) (hS.app _) Try.func29 rfl rfl (fun X q => same_any q (Ent.app (Ent.lab (l := 10) rfl (says_cel 0)) X) (Ent.app (Ent.lab (l := 601) rfl says_cel0) X))) (fun u ρ hu => (by rw [hfi] at hu; exact hu : u = .int .i64 ((0 : Nat) : Int) ∧ ρ = [])))) ?_)))))))
      refine za rfl (wl_nil (st_tn (w_seq (w_region (zm rfl (zd rfl (op_val (v' := .bool true) (by rfl) (op_geq rfl rfl)) ?_))))))
      refine wl_nil (st_tn (w_cond_t (rfl) ?_))
      have h00 : [sm][0]? = some sm := rfl
      refine w_region (zm rfl (zm rfl (zd rfl (op_idx rfl rfl tS47tn (Sl.ent (hS.app _)) (by omega)) ?_)))
      refine zd rfl (op_ldxA rfl tA46tn (hS.app _) (by assumption) (by rfl) (by rfl)) ?_
      refine wl_op0 [11] rfl rfl rfl (op_store rfl rfl tZ46tn (by rfl) (by rfl) (by exact Nat.le_of_ble_eq_true rfl)) ?_
      rintro _ _ ⟨rfl, rfl⟩
      refine wl_nil (st_tn (w_seq (w_region (zd rfl (op_load1 rfl tO74tn (Ent.lab (l := 10) rfl (says_cel 0))) (zd rfl (op_nilCheck rfl) (zd rfl (op_fieldAddr (off := 1034) rfl tF77_4tn) (zd rfl (op_load1 rfl tO3x (state_ent (Ent.lab (l := 601) rfl says_cel0) hr)) (za rfl (wl_nil (st_tn (w_seq (w_region (zd rfl (op_load1 rfl tO74tn (Ent.lab (l := 10) rfl (says_cel 0))) ?_)))))))))))))
      refine zd rfl (op_fieldAddr (off := 2) rfl tF46_2tn) (zd rfl (op_load1 rfl tO3tn (Ent.lab (l := 11) rfl (says_cel 2))) (zd rfl (op_fieldAddr (off := 3) rfl tF46_3tn) (zd rfl (op_load1 rfl tO3tn (Ent.lab (l := 11) rfl (says_cel 3))) (wl_op [601] rfl rfl rfl rfl (op_fn Try.func26 rfl rfl rfl (fn_imp (observe_any (b := g) (tl := tl) sm.2.2.1 sm.2.2.2 hrO hl hb (by omega) (by omega) hh) (fun u ρ hu => (by rw [← hH] at hu; exact hu : u = .int .i64 (stateN r H' hx) ∧ ρ = [(601, cel g (encG r (ringV H') (H'.length : Nat) (heldN r H' hx) (stateN r H' hx) tl) 77)])))) ?_))))
      rintro _ _ ⟨rfl, rfl⟩
      refine za rfl (wl_nil (st_tn (w_seq (w_region (zm rfl (zm rfl (zd rfl (op_neq rfl rfl) (wl_nil (st_tn (w_cond_d rfl (fun hc84 => ?_) (fun hc84 => ?_)))))))))))
      · -- c84.t
        refine w_drawW (fun β => [⟨85, [], [], [], noW (_), false, [], []⟩, ⟨86, [], [], [], noW (_), false, [], []⟩, ⟨87, [1], [], [], noW (_), false, [], []⟩, ⟨88, [2], [], [], noW (_), false, [], []⟩, ⟨89, [3], [], [], noW (_), false, [], []⟩, ⟨90, [4], [], [], noW (_), false, [], []⟩, ⟨91, [], [], [], noW (_), false, [], []⟩, ⟨92, [6], [], [], noW (_), false, [], []⟩, ⟨93, [7], [], [], noW (_), false, [], []⟩, ⟨94, [8], [], [], noW (_), false, [], []⟩, ⟨95, [], [], [], noW (_), false, [], []⟩, ⟨96, [], [], [], noW (_), false, [], []⟩, ⟨97, [5, 9, 10, 11], [], [], noW (_), false, [], []⟩, ⟨98, [12], [], [], fun w => DetW _ _, false, [], []⟩]) [] [8, 10, 0, 13, 14] [⟨85, [], [], false, [], []⟩, ⟨86, [], [], false, [], []⟩, ⟨87, [1], [], false, [], []⟩, ⟨88, [2], [], false, [], []⟩, ⟨89, [3], [], false, [], []⟩, ⟨90, [4], [], false, [], []⟩, ⟨91, [], [], false, [], []⟩, ⟨92, [6], [], false, [], []⟩, ⟨93, [7], [], false, [], []⟩, ⟨94, [8], [], false, [], []⟩, ⟨95, [], [], false, [], []⟩, ⟨96, [], [], false, [], []⟩, ⟨97, [5, 9, 10, 11], [], false, [], []⟩, ⟨98, [12], [], false, [], []⟩] [[], [], [], [], [], [], [], [], [], [], [], [], [], []] [[], [], [], [], [], [], [], [], [], [], [], [], [], []] tMixtn (fun _ => by rfl) (fun _ => by rfl) (by kernel_rfl) (by kernel_rfl) (by rfl) (by rfl)
            (fun β => ⟨.p rfl (by intro X; exact op_move rfl),
            ⟨.p rfl (by intro X; exact op_load1 rfl tO74tn (Ent.lab (l := 10) rfl (says_cel 0))),
            ⟨.p rfl (by intro X; rintro _ _ ⟨rfl, rfl⟩; exact op_nilCheck rfl),
            ⟨.p rfl (by intro X; rintro _ _ ⟨rfl, rfl⟩; exact op_fieldAddr (off := 0) rfl tF77_0tn),
            ⟨.p rfl (by intro X; rintro _ _ ⟨rfl, rfl⟩; exact op_fieldAddr (off := 0) rfl tF27_0tn),
            ⟨.p rfl (by intro X; rintro _ _ ⟨rfl, rfl⟩; exact op_load1 rfl tO9x (rule_ent0 (Ent.lab (l := 601) rfl says_cel0))),
            ⟨.p rfl (by intro X; exact op_move rfl),
            ⟨.p rfl (by intro X; rintro _ _ ⟨rfl, rfl⟩; exact op_nilCheck rfl),
            ⟨.p rfl (by intro X; rintro _ _ ⟨rfl, rfl⟩; exact op_fieldAddr (off := 1) rfl tF82_1tn),
            ⟨.p rfl (by intro X; rintro _ _ ⟨rfl, rfl⟩; exact op_load1 rfl tO3x (Ent.lab (l := 611) rfl (says_cel 1))),
            ⟨.p rfl (by intro X; exact op_move rfl),
            ⟨.p rfl (by intro X; exact op_move rfl),
            ⟨.p rfl (by intro X; rintro _ _ ⟨rfl, rfl⟩ _ _ ⟨rfl, rfl⟩ _ _ ⟨rfl, rfl⟩ _ _ ⟨rfl, rfl⟩; exact op_build tB88tn rfl rfl),
            ⟨.px rfl (by intro X; rintro _ _ ⟨rfl, rfl⟩; refine OpT.mono (op_buildSlice (enc := encTn) (l := [(r.name, slot, sx, stateN r H' hx)]) (lab := 98) tL42_1tn rfl rfl (fun _ => rfl) rfl) ?_; rintro _ _ ⟨a98, c98, rfl, rfl⟩; obtain ⟨w, rfl, rfl⟩ : ∃ w : Wt, w.a = a98 ∧ w.c = c98 := ⟨{ a := a98, c := c98 }, rfl, rfl⟩; exact ⟨w, rfl, rfl⟩),
            trivial⟩⟩⟩⟩⟩⟩⟩⟩⟩⟩⟩⟩⟩⟩)
            (fun β β' => ⟨fun _ => by rfl, ⟨fun _ => by rfl, ⟨fun _ => by rfl, ⟨fun _ => by rfl, ⟨fun _ => by rfl, ⟨fun _ => by rfl, ⟨fun _ => by rfl, ⟨fun _ => by rfl, ⟨fun _ => by rfl, ⟨fun _ => by rfl, ⟨fun _ => by rfl, ⟨fun _ => by rfl, ⟨fun _ => by rfl, ⟨fun _ => by rfl, trivial⟩⟩⟩⟩⟩⟩⟩⟩⟩⟩⟩⟩⟩⟩) ?_
        intro β
        rintro _ _ ⟨rfl, rfl⟩ _ _ ⟨rfl, rfl⟩ _ _ ⟨rfl, rfl⟩ _ _ ⟨rfl, rfl⟩ _ _ ⟨rfl, rfl⟩ _ _ ⟨rfl, rfl⟩ _ _ ⟨rfl, rfl⟩ _ _ ⟨rfl, rfl⟩ _ _ ⟨rfl, rfl⟩ _ _ ⟨rfl, rfl⟩ _ _ ⟨rfl, rfl⟩ _ _ ⟨rfl, rfl⟩ _ _ ⟨rfl, rfl⟩ _ _ ⟨rfl, rfl⟩
        generalize (β 13).a = a98
        generalize (β 13).c = c98
        refine wl_norm (e' := [(0, _), (1, _), (53, _), (54, _), (85, _), (98, _)]) (.cons rfl (.cons rfl (.cons rfl (.cons rfl (.cons rfl (.cons rfl (.nil _))))))) (by dsimp only [cond_false, cond_true, List.nil_append, List.cons_append]) ?_
        refine wl_op [8] rfl rfl rfl rfl (op_append (lab := 8) (lab' := 99) rfl rfl tP42tn enc1Tn (Sl.lab 98 rfl (by simp [maxLen])) (by first | omega | (simp; done) | (simp; omega) | (simp [*]; omega)) (by first | omega | (simp; done) | (simp; omega) | (simp [*]; omega))) ?_
        rintro _ _ ⟨a99, c99, rfl, rfl⟩
        refine za rfl (wl_nil (st_bn (st_tn (w_region (zd rfl (op_add' rfl rfl (by omega)) ?_)))))
        refine zm rfl (wl_nil ?_)
        refine st_roundQ (x := (out, a_out, c_out, i, Hx, hx, sx)) ((_, _, _, i + 1, H', heldN r H' hx, stateN r H' hx)) [99, 601, 611] rfl (rfl) (.cons rfl (.cons rfl (.nil _))) (.cons rfl (.cons rfl (.cons rfl (.nil _)))) (by
            try dsimp only
            exact ⟨by rw [List.length_append, List.length_singleton]; omega, .inr ⟨by omega, rfl, rfl, rfl⟩⟩) (by
            try dsimp only
            omega)
      · -- c84.f
        refine w_skip (st_bn (st_tn (w_region (zd rfl (op_add' rfl rfl (by omega)) ?_))))
        refine zm rfl (wl_nil ?_)
        refine st_roundQ (x := (out, a_out, c_out, i, Hx, hx, sx)) ((out, a_out, c_out, i + 1, H', heldN r H' hx, stateN r H' hx)) [8, 601, 611] rfl (rfl) (.cons rfl (.cons rfl (.nil _))) (.cons rfl (.cons rfl (.cons rfl (.nil _)))) (by
            try dsimp only
            exact ⟨by omega, .inr ⟨by omega, rfl, rfl, rfl⟩⟩) (by
            try dsimp only
            omega)
    · -- c55.f
      obtain ⟨q0, q1, q2, q3⟩ : i = 1 ∧ Hx = H' ∧ hx = heldN r H' h ∧ sx = stateN r H' h := hiv.resolve_left (fun h9 => hc55 (by rw [h9.1]; show ((0 : Nat) : Int) < 1; omega))
      subst q2; subst q3; subst q1
      refine w_exit (st_te ?_)
      refine st_te ?_
      refine st_be (st_tn (w_seq (w_region (zm rfl (zd rfl (op_nilCheck rfl) (zd rfl (op_fieldAddr (off := 1) rfl tF82_1tn) (zd rfl (op_load1 rfl tO3x (Ent.lab (l := 611) rfl (says_cel 1))) (zd rfl (op_add' rfl rfl (by omega)) ?_))))))))
      refine zd rfl (op_nilCheck rfl) (zd rfl (op_fieldAddr (off := 1) rfl tF82_1tn) (wl_op0 [611] rfl rfl rfl (op_store (b := b) (o := 0 + 1) rfl rfl tZ3x (by rfl) (by rfl) (by simp)) ?_))
      rintro _ _ ⟨rfl, rfl⟩
      refine wl_nil (st_tn (w_seq (w_region (zm rfl (za rfl (za rfl (wl_nil (st_tn (w_ret (st_ret (vs := [_, _]) [611, 601] Try.results9 ⟨rfl, ⟨rfl, trivial⟩⟩ rfl ?_))))))))))
      refine ⟨[(611, _), (601, _)], rfl, ?_⟩
      exact ⟨_, _, _, rfl, rfl⟩
end Go.Proofs.Ytecmigildpkigaa
namespace Go.Proofs.Ytecmigildpkigaa
open Go Go.SL Go.RowKit
set_option linter.unusedVariables false
set_option linter.unusedSimpArgs false
theorem tA32to : aggB Try.prog 32 7 = true := by kernel_rfl
theorem tB32to : placesB Try.prog 32 = some ([(0, 1), (1, 1), (2, 1), (3, 2), (5, 1), (6, 1)], [Value.string .empty, Value.string .empty, Value.int .i64 0, Value.int .i64 0, Value.int .i64 0, Value.int .i64 0, Value.slice none 0 0]) := by kernel_rfl
theorem tF109_0to : fieldB Try.prog 109 0 0 = true := by kernel_rfl
theorem tF109_1to : fieldB Try.prog 109 1 1 = true := by kernel_rfl
theorem tF32_5to : fieldB Try.prog 32 5 6 = true := by kernel_rfl
theorem tL30_1to : zerosB Try.prog 30 3 1 1 = some [Value.int .i64 0] := by kernel_rfl
theorem tMixto : Try.prog.follows .mixedOrders = true := by kernel_rfl
theorem tN32to : (Try.prog.info? 32).bind (·.zero) = some (Value.agg #[Value.string .empty, Value.string .empty, Value.int .i64 0, Value.int .i64 0, Value.int .i64 0, Value.int .i64 0, Value.slice none 0 0]) := by kernel_rfl
theorem tO22to : oneB Try.prog 22 = true := by kernel_rfl
theorem tO30to : oneB Try.prog 30 = true := by kernel_rfl
theorem tO5to : oneB Try.prog 5 = true := by kernel_rfl
theorem tP30to : appB Try.prog 30 3 1 8 = true := by kernel_rfl
theorem tR72to : arrB Try.prog 72 2 1 = true := by kernel_rfl
theorem tS22to : sliceB Try.prog 22 72 2 = true := by kernel_rfl
theorem tZ30to : (Try.prog.info? 30).map (·.size) = some 1 := by kernel_rfl
theorem tZ32to : (Try.prog.info? 32).map (·.size) = some 7 := by kernel_rfl
def pairI (p : Int × Int) : Int × Int := (min p.1 p.2, p.1)
def apiB : ByteArray := ⟨#[97, 112, 105]⟩
def errI (fr : Int) (l : RingV) (a : Option Addr) (c : Nat) : SeV := ⟨apiB, ⟨#[]⟩, 2, 0, 0, fr, a, c, (l.map pairI).map Prod.fst⟩
def traI (fr : Int) (l : RingV) (a : Option Addr) (c : Nat) : SeV := ⟨apiB, ⟨#[]⟩, 1, 0, 0, fr, a, c, (l.map pairI).map Prod.snd⟩
set_option maxHeartbeats 2000000 in
set_option maxRecDepth 100000 in
theorem input_any {σ : World} {F : List Res} {a : Option Addr} {c : Nat} {l : RingV} (lab1 lab2 : Nat) (fr : Int) (hf : B8 fr) (hB : ∀ p ∈ l, B8 p.1 ∧ B8 p.2) (hl : l.length ≤ 16) (g : Sl σ F encP8 2 (.slice a l.length c) l) :
    FnT Try.prog σ F 44 [.agg #[.int .u8 fr, .slice a l.length c]] [] (fun u ρ => ∃ (a1 a2 : Option Addr) (c1 c2 : Nat), u = .tuple #[.agg (encSe (errI fr l a1 c1)).toArray, .agg (encSe (traI fr l a2 c2)).toArray] ∧ ρ = [(lab1, slW 3 SL.encZ 1 (.slice a1 ((l.map pairI).map Prod.fst).length c1) ((l.map pairI).map Prod.fst)), (lab2, slW 3 SL.encZ 1 (.slice a2 ((l.map pairI).map Prod.snd).length c2) ((l.map pairI).map Prod.snd))]) := by
  refine fn_of 57 Try.func44 rfl Try.ntmps44 rfl ?_
  refine w_seq (w_region (wl_op [] rfl rfl rfl rfl (op_box (T := 109) (l := 1) rfl) ?_))
  rintro _ _ ⟨b1, rfl, rfl⟩
  refine wl_op [] rfl rfl rfl rfl (op_alloc (l := 2) tN32to) ?_
  rintro _ _ ⟨b2, rfl, rfl⟩
  refine wl_op [] rfl rfl rfl rfl (op_alloc (l := 3) tN32to) ?_
  rintro _ _ ⟨b3, rfl, rfl⟩
  refine wl_nil (st_tn (w_seq (w_region (zd rfl (op_fieldAddr (off := 0) rfl tF109_0to) (zd rfl (op_load1 rfl tO5to (Ent.lab (l := 1) rfl (says_cel 0))) (zd rfl (op_convI64 rfl (by rw [Try.underlying5]; rfl) Try.underlying3 (by omega)) ?_))))))
  refine zd rfl (op_build tB32to rfl rfl) (wl_op0 [2] rfl rfl rfl (op_store rfl rfl tZ32to (by rfl) (by rfl) (by exact Nat.le_of_ble_eq_true rfl)) ?_)
  rintro _ _ ⟨rfl, rfl⟩
  refine wl_nil (st_tn (w_seq (w_region (zd rfl (op_fieldAddr (off := 0) rfl tF109_0to) (zd rfl (op_load1 rfl tO5to (Ent.lab (l := 1) rfl (says_cel 0))) (zd rfl (op_convI64 rfl (by rw [Try.underlying5]; rfl) Try.underlying3 (by omega)) ?_))))))
  refine zd rfl (op_build tB32to rfl rfl) (wl_op0 [3] rfl rfl rfl (op_store rfl rfl tZ32to (by rfl) (by rfl) (by exact Nat.le_of_ble_eq_true rfl)) ?_)
  rintro _ _ ⟨rfl, rfl⟩
  refine wl_nil (st_tn (w_seq (w_seq (w_wk 2 (cel b2 [.string apiB, .string ⟨#[]⟩, .int .i64 2, .int .i64 0, .int .i64 0, .int .i64 fr, .slice none 0 0] 32) rfl (fun _ h => h) ?_))))
  refine w_wk 3 (cel b3 [.string apiB, .string ⟨#[]⟩, .int .i64 1, .int .i64 0, .int .i64 0, .int .i64 fr, .slice none 0 0] 32) rfl (fun _ h => h) ?_
  refine w_region (za rfl (wl_nil (st_tn (w_block (w_emp 92 (slO_nil 3 1) ?_)))))
  refine w_emp 93 (slO_nil 3 1) ?_
  refine w_loopQ (X := Nat × List Int × Option Addr × Nat × List Int × Option Addr × Nat) (fun z => z.1 ≤ l.length ∧ z.2.1 = ((l.take z.1).map pairI).map Prod.fst ∧ z.2.2.2.2.1 = ((l.take z.1).map pairI).map Prod.snd) (fun z => [(4, .int .i64 (z.1))]) (fun z => [(92, slW 3 SL.encZ 1 (.slice (z.2.2.1) (z.2.1).length (z.2.2.2.1)) (z.2.1)), (2, cel b2 [.string apiB, .string ⟨#[]⟩, .int .i64 2, .int .i64 0, .int .i64 0, .int .i64 fr, .slice (z.2.2.1) (z.2.1).length (z.2.2.2.1)] 32), (93, slW 3 SL.encZ 1 (.slice (z.2.2.2.2.2.1) (z.2.2.2.2.1).length (z.2.2.2.2.2.2)) (z.2.2.2.2.1)), (3, cel b3 [.string apiB, .string ⟨#[]⟩, .int .i64 1, .int .i64 0, .int .i64 0, .int .i64 fr, .slice (z.2.2.2.2.2.1) (z.2.2.2.2.1).length (z.2.2.2.2.2.2)] 32)]) (fun z => l.length - z.1) ((0, [], none, 0, [], none, 0)) [(1, _), (2, _), (3, _)] [(1, _)] [92, 2, 93, 3, 1] rfl (rfl) (.cons rfl (.nil _)) (.cons rfl (.cons rfl (.cons rfl (.nil _)))) (by
      try dsimp only
      exact ⟨Nat.zero_le _, rfl, rfl⟩) ?_
  rintro ⟨i, er, a_er, c_er, tr, a_tr, c_tr⟩ ⟨hi, he, ht⟩
  refine w_norm2 (by dsimp only [List.cons_append, List.nil_append]) (by dsimp only [List.cons_append, List.nil_append]) ?_
  try dsimp only at hi he ht ⊢
  refine w_seq (w_seq (w_cutL [(21, .bool (decide ((i : Int) < l.length ∧ (i : Int) < 16)))] [1, 2, 3, 4] [92, 2, 93, 3, 1] rfl (fun K' hK => ?_) ?_))
  · -- cut r4
    refine w_region (zm rfl (zd rfl (op_fieldAddr (off := 1) rfl tF109_1to) (zd rfl (op_load1 rfl tO22to (Ent.lab (l := 1) rfl (says_cel 1))) (zd rfl (op_lenT rfl tS22to (Sl.ent (g.app _))) (zd rfl (op_lss rfl rfl) (zm rfl (wl_gsplit (t := 18) rfl (fun hg18 => ?_) (fun hg18 => ?_))))))))
    · -- 18 is True
      refine wl_wanted_det rfl rfl rfl rfl rfl rfl rfl (op_move rfl) (wl_wanted_det rfl rfl rfl rfl rfl rfl rfl (op_lss rfl rfl) (zd rfl (op_pick_t rfl rfl) (wl_nil (st_tn ?_))))
      exact cut_done1 [92, 2, 93, 3, 1] hK rfl (by first | (rw [decide_eq_decide]; omega) | (symm; rw [decide_eq_false_iff_not]; omega) | (symm; rw [decide_eq_true_iff]; omega) | (simp; done) | (simp; omega) | (simp [*]; done) | (simp [*]; omega)) (by rfl) rfl rfl
    · -- 18 is False
      refine wl_unwanted rfl rfl rfl rfl rfl rfl rfl rfl (wl_unwanted rfl rfl rfl rfl rfl rfl rfl rfl (zd rfl (op_pick_f rfl rfl) (wl_nil (st_tn ?_))))
      exact cut_done1 [92, 2, 93, 3, 1] hK rfl (by first | (rw [decide_eq_decide]; omega) | (symm; rw [decide_eq_false_iff_not]; omega) | (symm; rw [decide_eq_true_iff]; omega) | (simp; done) | (simp; omega) | (simp [*]; done) | (simp [*]; omega)) (by rfl) rfl rfl
  · -- behind r4
    show W _ _ _ _ _ [(21, _), (1, _), (2, _), (3, _), (4, _)] [(92, _), (2, _), (93, _), (3, _), (1, _)] _
    refine w_cond_d rfl (fun hc21 => ?_) (fun hc21 => ?_)
    · -- c21.t
      obtain ⟨p, hp⟩ := getE (l := l) (i := i) (by omega)
      have hpb := hB p (List.mem_of_getElem? hp)
      have hel : er.length = i := by rw [he]; simp; omega
      have htl : tr.length = i := by rw [ht]; simp; omega
      refine w_skip (st_tn (w_seq (w_block (w_seq ?_))))
      refine w_drawW (fun β => [⟨24, [], [], [], noW (_), false, [], []⟩, ⟨25, [0], [], [], noW (_), false, [], []⟩, ⟨26, [], [], [], noW (_), false, [], []⟩, ⟨27, [2], [], [], noW (_), false, [], []⟩, ⟨28, [], [], [], noW (_), false, [], []⟩, ⟨29, [3, 4], [], [], noW (_), false, [], []⟩, ⟨30, [5], [], [], noW (_), false, [], []⟩, ⟨31, [6], [], [], noW (_), false, [], []⟩, ⟨32, [7], [], [], noW (_), false, [], []⟩, ⟨33, [8], [], [], fun w => DetW _ _, false, [], []⟩]) [] [3, 1, 4] [⟨24, [], [], false, [], []⟩, ⟨25, [0], [], false, [], []⟩, ⟨26, [], [], false, [], []⟩, ⟨27, [2], [], false, [], []⟩, ⟨28, [], [], false, [], []⟩, ⟨29, [3, 4], [], false, [], []⟩, ⟨30, [5], [], false, [], []⟩, ⟨31, [6], [], false, [], []⟩, ⟨32, [7], [], false, [], []⟩, ⟨33, [8], [], false, [], []⟩] [[], [], [], [], [], [], [], [], [], []] [[], [], [], [], [], [], [], [], [], []] tMixto (fun _ => by rfl) (fun _ => by rfl) (by kernel_rfl) (by kernel_rfl) (by rfl) (by rfl)
          (fun β => ⟨.p rfl (by intro X; exact op_fieldAddr (off := 6) rfl tF32_5to),
          ⟨.p rfl (by intro X; rintro _ _ ⟨rfl, rfl⟩; exact op_load1 rfl tO30to (Ent.lab (l := 3) rfl (says_cel 6))),
          ⟨.p rfl (by intro X; exact op_fieldAddr (off := 1) rfl tF109_1to),
          ⟨.p rfl (by intro X; rintro _ _ ⟨rfl, rfl⟩; exact op_load1 rfl tO22to (Ent.lab (l := 1) rfl (says_cel 1))),
          ⟨.p rfl (by intro X; exact op_move rfl),
          ⟨.p rfl (by intro X; rintro _ _ ⟨rfl, rfl⟩ _ _ ⟨rfl, rfl⟩; exact op_idx rfl rfl tS22to (Sl.ent (Sl.app (Sl.app g _) _)) (by omega)),
          ⟨.p rfl (by intro X; rintro _ _ ⟨rfl, rfl⟩; exact op_idxArr (i := 0) rfl rfl tR72to (Nat.le_of_ble_eq_true rfl)),
          ⟨.p rfl (by intro X; rintro _ _ ⟨rfl, rfl⟩; exact op_ldxf rfl tO5to (Sl.app (Sl.app g _) _) (by assumption) (by rfl)),
          ⟨.p rfl (by intro X; rintro _ _ ⟨rfl, rfl⟩; exact op_convI64 rfl (by rw [Try.underlying5]; rfl) Try.underlying3 (by omega)),
          ⟨.px rfl (by intro X; rintro _ _ ⟨rfl, rfl⟩; refine OpT.mono (op_buildSlice (enc := SL.encZ) (l := [_]) (lab := 33) tL30_1to rfl rfl (fun _ => rfl) rfl) ?_; rintro _ _ ⟨a33, c33, rfl, rfl⟩; obtain ⟨w, rfl, rfl⟩ : ∃ w : Wt, w.a = a33 ∧ w.c = c33 := ⟨{ a := a33, c := c33 }, rfl, rfl⟩; exact ⟨w, rfl, rfl⟩),
          trivial⟩⟩⟩⟩⟩⟩⟩⟩⟩⟩)
          (fun β β' => ⟨fun _ => by rfl, ⟨fun _ => by rfl, ⟨fun _ => by rfl, ⟨fun _ => by rfl, ⟨fun _ => by rfl, ⟨fun _ => by rfl, ⟨fun _ => by rfl, ⟨fun _ => by rfl, ⟨fun _ => by rfl, ⟨fun _ => by rfl, trivial⟩⟩⟩⟩⟩⟩⟩⟩⟩⟩) ?_
      intro β
      rintro _ _ ⟨rfl, rfl⟩ _ _ ⟨rfl, rfl⟩ _ _ ⟨rfl, rfl⟩ _ _ ⟨rfl, rfl⟩ _ _ ⟨rfl, rfl⟩ _ _ ⟨rfl, rfl⟩ _ _ ⟨rfl, rfl⟩ _ _ ⟨rfl, rfl⟩ _ _ ⟨rfl, rfl⟩ _ _ ⟨rfl, rfl⟩
      generalize (β 9).a = a33
      generalize (β 9).c = c33
      refine wl_norm (e' := [(1, _), (2, _), (3, _), (4, _), (25, _), (33, _)]) (.cons rfl (.cons rfl (.cons rfl (.cons rfl (.cons rfl (.cons rfl (.nil _))))))) (by dsimp only [cond_false, cond_true, List.nil_append, List.cons_append]) ?_
      refine wl_op [93] rfl rfl rfl rfl (op_append (lab := 93) (lab' := 34) rfl rfl tP30to SL.enc1Z (Sl.lab 33 rfl (by simp [maxLen])) (by first | omega | (simp; done) | (simp; omega) | (simp [*]; omega)) (by first | omega | (simp; done) | (simp; omega) | (simp [*]; omega))) ?_
      rintro _ _ ⟨a34, c34, rfl, rfl⟩
      refine zd rfl (op_fieldAddr (off := 6) rfl tF32_5to) (wl_op0 [3] rfl rfl rfl (op_store rfl rfl tZ30to (by rfl) (by rfl) (by exact Nat.le_of_ble_eq_true rfl)) ?_)
      rintro _ _ ⟨rfl, rfl⟩
      refine wl_nil (st_tn ?_)
      refine w_drawW (fun β => [⟨36, [], [], [], noW (_), false, [], []⟩, ⟨37, [0], [], [], noW (_), false, [], []⟩, ⟨38, [], [], [], noW (_), false, [], []⟩, ⟨39, [2], [], [], noW (_), false, [], []⟩, ⟨40, [], [], [], noW (_), false, [], []⟩, ⟨41, [3, 4], [], [], noW (_), false, [], []⟩, ⟨42, [5], [], [], noW (_), false, [], []⟩, ⟨43, [6], [], [], noW (_), false, [], []⟩, ⟨44, [], [], [], noW (_), false, [], []⟩, ⟨45, [8], [], [], noW (_), false, [], []⟩, ⟨46, [], [], [], noW (_), false, [], []⟩, ⟨47, [9, 10], [], [], noW (_), false, [], []⟩, ⟨48, [11], [], [], noW (_), false, [], []⟩, ⟨49, [12], [], [], noW (_), false, [], []⟩, ⟨50, [7, 13], [], [], noW (_), false, [], []⟩, ⟨51, [14], [], [], noW (_), false, [], []⟩, ⟨52, [15], [], [], fun w => DetW _ _, false, [], []⟩]) [] [2, 1, 4] [⟨36, [], [], false, [], []⟩, ⟨37, [0], [], false, [], []⟩, ⟨38, [], [], false, [], []⟩, ⟨39, [2], [], false, [], []⟩, ⟨40, [], [], false, [], []⟩, ⟨41, [3, 4], [], false, [], []⟩, ⟨42, [5], [], false, [], []⟩, ⟨43, [6], [], false, [], []⟩, ⟨44, [], [], false, [], []⟩, ⟨45, [8], [], false, [], []⟩, ⟨46, [], [], false, [], []⟩, ⟨47, [9, 10], [], false, [], []⟩, ⟨48, [11], [], false, [], []⟩, ⟨49, [12], [], false, [], []⟩, ⟨50, [7, 13], [], false, [], []⟩, ⟨51, [14], [], false, [], []⟩, ⟨52, [15], [], false, [], []⟩] [[], [], [], [], [], [], [], [], [], [], [], [], [], [], [], [], []] [[], [], [], [], [], [], [], [], [], [], [], [], [], [], [], [], []] tMixto (fun _ => by rfl) (fun _ => by rfl) (by kernel_rfl) (by kernel_rfl) (by rfl) (by rfl)
          (fun β => ⟨.p rfl (by intro X; exact op_fieldAddr (off := 6) rfl tF32_5to),
          ⟨.p rfl (by intro X; rintro _ _ ⟨rfl, rfl⟩; exact op_load1 rfl tO30to (Ent.lab (l := 2) rfl (says_cel 6))),
          ⟨.p rfl (by intro X; exact op_fieldAddr (off := 1) rfl tF109_1to),
          ⟨.p rfl (by intro X; rintro _ _ ⟨rfl, rfl⟩; exact op_load1 rfl tO22to (Ent.lab (l := 1) rfl (says_cel 1))),
          ⟨.p rfl (by intro X; exact op_move rfl),
          ⟨.p rfl (by intro X; rintro _ _ ⟨rfl, rfl⟩ _ _ ⟨rfl, rfl⟩; exact op_idx rfl rfl tS22to (Sl.ent (Sl.app (Sl.app g _) _)) (by omega)),
          ⟨.p rfl (by intro X; rintro _ _ ⟨rfl, rfl⟩; exact op_idxArr (i := 0) rfl rfl tR72to (Nat.le_of_ble_eq_true rfl)),
          ⟨.p rfl (by intro X; rintro _ _ ⟨rfl, rfl⟩; exact op_ldxf rfl tO5to (Sl.app (Sl.app g _) _) (by assumption) (by rfl)),
          ⟨.p rfl (by intro X; exact op_fieldAddr (off := 1) rfl tF109_1to),
          ⟨.p rfl (by intro X; rintro _ _ ⟨rfl, rfl⟩; exact op_load1 rfl tO22to (Ent.lab (l := 1) rfl (says_cel 1))),
          ⟨.p rfl (by intro X; exact op_move rfl),
          ⟨.p rfl (by intro X; rintro _ _ ⟨rfl, rfl⟩ _ _ ⟨rfl, rfl⟩; exact op_idx rfl rfl tS22to (Sl.ent (Sl.app (Sl.app g _) _)) (by omega)),
          ⟨.p rfl (by intro X; rintro _ _ ⟨rfl, rfl⟩; exact op_idxArr (i := 1) rfl rfl tR72to (Nat.le_of_ble_eq_true rfl)),
          ⟨.p rfl (by intro X; rintro _ _ ⟨rfl, rfl⟩; exact op_ldxf rfl tO5to (Sl.app (Sl.app g _) _) (by assumption) (by rfl)),
          ⟨.p rfl (by intro X; rintro _ _ ⟨rfl, rfl⟩ _ _ ⟨rfl, rfl⟩; exact op_min rfl rfl),
          ⟨.p rfl (by intro X; rintro _ _ ⟨rfl, rfl⟩; exact op_convI64 rfl (by rw [Try.underlying5]; rfl) Try.underlying3 (by omega)),
          ⟨.px rfl (by intro X; rintro _ _ ⟨rfl, rfl⟩; refine OpT.mono (op_buildSlice (enc := SL.encZ) (l := [min p.1 p.2]) (lab := 52) tL30_1to rfl rfl (fun _ => rfl) rfl) ?_; rintro _ _ ⟨a52, c52, rfl, rfl⟩; obtain ⟨w, rfl, rfl⟩ : ∃ w : Wt, w.a = a52 ∧ w.c = c52 := ⟨{ a := a52, c := c52 }, rfl, rfl⟩; exact ⟨w, rfl, rfl⟩),
          trivial⟩⟩⟩⟩⟩⟩⟩⟩⟩⟩⟩⟩⟩⟩⟩⟩⟩)
          (fun β β' => ⟨fun _ => by rfl, ⟨fun _ => by rfl, ⟨fun _ => by rfl, ⟨fun _ => by rfl, ⟨fun _ => by rfl, ⟨fun _ => by rfl, ⟨fun _ => by rfl, ⟨fun _ => by rfl, ⟨fun _ => by rfl, ⟨fun _ => by rfl, ⟨fun _ => by rfl, ⟨fun _ => by rfl, ⟨fun _ => by rfl, ⟨fun _ => by rfl, ⟨fun _ => by rfl, ⟨fun _ => by rfl, ⟨fun _ => by rfl, trivial⟩⟩⟩⟩⟩⟩⟩⟩⟩⟩⟩⟩⟩⟩⟩⟩⟩) ?_
      intro β
      rintro _ _ ⟨rfl, rfl⟩ _ _ ⟨rfl, rfl⟩ _ _ ⟨rfl, rfl⟩ _ _ ⟨rfl, rfl⟩ _ _ ⟨rfl, rfl⟩ _ _ ⟨rfl, rfl⟩ _ _ ⟨rfl, rfl⟩ _ _ ⟨rfl, rfl⟩ _ _ ⟨rfl, rfl⟩ _ _ ⟨rfl, rfl⟩ _ _ ⟨rfl, rfl⟩ _ _ ⟨rfl, rfl⟩ _ _ ⟨rfl, rfl⟩ _ _ ⟨rfl, rfl⟩ _ _ ⟨rfl, rfl⟩ _ _ ⟨rfl, rfl⟩ _ _ ⟨rfl, rfl⟩
      generalize (β 16).a = a52
      generalize (β 16).c = c52
      refine wl_norm (e' := [(1, _), (2, _), (3, _), (4, _), (37, _), (52, _)]) (.cons rfl (.cons rfl (.cons rfl (.cons rfl (.cons rfl (.cons rfl (.nil _))))))) (by dsimp only [cond_false, cond_true, List.nil_append, List.cons_append]) ?_
      refine wl_op [92] rfl rfl rfl rfl (op_append (lab := 92) (lab' := 53) rfl rfl tP30to SL.enc1Z (Sl.lab 52 rfl (by simp [maxLen])) (by first | omega | (simp; done) | (simp; omega) | (simp [*]; omega)) (by first | omega | (simp; done) | (simp; omega) | (simp [*]; omega))) ?_
      rintro _ _ ⟨a53, c53, rfl, rfl⟩
      refine zd rfl (op_fieldAddr (off := 6) rfl tF32_5to) (wl_op0 [2] rfl rfl rfl (op_store rfl rfl tZ30to (by rfl) (by rfl) (by exact Nat.le_of_ble_eq_true rfl)) ?_)
      rintro _ _ ⟨rfl, rfl⟩
      refine wl_nil (st_bn (st_tn (w_region (zm rfl (zd rfl (op_add' rfl rfl (by omega)) ?_)))))
      refine za rfl (wl_nil ?_)
      refine st_roundQ (x := (i, er, a_er, c_er, tr, a_tr, c_tr)) ((i + 1, _, _, _, _, _, _)) [53, 2, 34, 3, 1] rfl (rfl) (.cons rfl (.nil _)) (.cons rfl (.cons rfl (.cons rfl (.nil _)))) (by
          try dsimp only
          refine ⟨by omega, ?_, ?_⟩
          · rw [take_snoc hp, List.map_append, List.map_append, ← he]; rfl
          · rw [take_snoc hp, List.map_append, List.map_append, ← ht]; rfl) (by
          try dsimp only
          omega)
    · -- c21.f
      refine w_exit (st_te ?_)
      refine st_te ?_
      refine st_be (st_tn (w_seq ?_))
      refine w_drawW (fun β => [⟨55, [], [], [], noW (_), false, [2], []⟩, ⟨56, [], [], [], noW (_), false, [], []⟩, ⟨59, [0], [], [(2, _)], noW (_), false, [], []⟩]) [2] [2, 3] [⟨55, [], [], false, [2], []⟩, ⟨56, [], [], false, [], []⟩, ⟨59, [0], [], false, [], []⟩] [[], [], []] [[], [], [(2, _)]] tMixto (fun _ => by rfl) (fun _ => by rfl) (by kernel_rfl) (by kernel_rfl) (by rfl) (by rfl)
          (fun β => ⟨.p rfl (by intro X; exact op_loadA rfl tA32to (Ent.lab (l := 2) rfl (says_cel 0)) (Nat.le_of_ble_eq_true rfl)),
          ⟨.p rfl (by intro X; exact op_loadA rfl tA32to (Ent.lab (l := 3) rfl (says_cel 0)) (Nat.le_of_ble_eq_true rfl)),
          ⟨.p rfl (by intro X; rintro _ _ ⟨rfl, rfl⟩; exact op_store rfl rfl tZ32to (by rfl) (by rfl) (by exact Nat.le_of_ble_eq_true rfl)) (hu := by exact .inr fun _ _ h => h.1),
          trivial⟩⟩⟩)
          (fun β β' => ⟨fun _ => by rfl, ⟨fun _ => by rfl, ⟨fun _ => by rfl, trivial⟩⟩⟩) ?_
      intro β
      rintro _ _ ⟨rfl, rfl⟩ _ _ ⟨rfl, rfl⟩ _ _ ⟨rfl, rfl⟩
      refine wl_norm (e' := [(2, _), (3, _), (56, _)]) (.cons rfl (.cons rfl (.cons rfl (.nil _)))) (by dsimp only [cond_false, cond_true, List.nil_append, List.cons_append]) ?_
      refine wl_op0 [3] rfl rfl rfl (op_store rfl rfl tZ32to (by rfl) (by rfl) (by exact Nat.le_of_ble_eq_true rfl)) ?_
      rintro _ _ ⟨rfl, rfl⟩
      refine wl_nil (st_tn (w_ret (st_ret (vs := [_, _]) [92, 93] Try.results44 ⟨⟨_, rfl, Ent.mono (Ent.lab (l := 2) rfl (says_cel 0)) (fun _ h => run_load_agg tA32to h (Nat.le_of_ble_eq_true rfl))⟩, ⟨⟨_, rfl, Ent.mono (Ent.lab (l := 3) rfl (says_cel 0)) (fun _ h => run_load_agg tA32to h (Nat.le_of_ble_eq_true rfl))⟩, trivial⟩⟩ rfl ?_)))
      refine ⟨[(lab1, _), (lab2, _)], rfl, ?_⟩
      have hfin : l.take i = l := List.take_of_length_le (by omega)
      rw [hfin] at he ht
      subst he; subst ht
      exact ⟨_, _, _, _, rfl, rfl⟩
end Go.Proofs.Ytecmigildpkigaa
namespace Go.Proofs.Ytecmigildpkigaa
open Go Go.SL Go.RowKit
set_option linter.unusedVariables false
set_option linter.unusedSimpArgs false
abbrev EpV := Int × Int × Int
def encEp (x : EpV) : List Value := [.int .i64 x.1, .int .i64 x.2.1, .int .i64 x.2.2]
theorem enc1Ep : Enc1 encEp 3 := ⟨fun _ => rfl, fun a u h => by simp only [encEp, List.mem_cons, List.not_mem_nil, or_false] at h; rcases h with rfl | rfl | rfl <;> rfl⟩
def epOpen (fr : Int) (L : List Int) (i : Nat) (out : List EpV) : List EpV := if i = 0 ∨ L.getD (i - 1) 0 = 0 then out ++ [(fr + i, 0, -1)] else out
def epSet (fr : Int) (i : Nat) (s : Int) (o : List EpV) : List EpV := match o[o.length - 1]? with
  | some q => o.set (o.length - 1) (q.1, fr + i + 1, if s = 2 ∧ q.2.2 < 0 then fr + i else q.2.2)
  | none => o
def epN (fr : Int) (L : List Int) : Nat → List EpV
  | 0 => []
  | i + 1 => match L[i]? with
    | some s => if s = 0 then epN fr L i else epSet fr i s (epOpen fr L i (epN fr L i))
    | none => epN fr L i
theorem epSet_len {fr : Int} {i : Nat} {s : Int} {o : List EpV} : (epSet fr i s o).length = o.length := by
  unfold epSet; split <;> simp
theorem epN_len (fr : Int) (L : List Int) : ∀ i, (epN fr L i).length ≤ i
  | 0 => by simp [epN]
  | i + 1 => by
    have ih := epN_len fr L i
    rw [epN]
    split
    · split
      · omega
      · rw [epSet_len]; unfold epOpen; split
        · rw [List.length_append, List.length_singleton]; omega
        · omega
    · omega
theorem epN_ne {fr : Int} {L : List Int} {i : Nat} {s : Int} (h : L[i]? = some s) (hs : s ≠ 0) : 0 < (epN fr L (i + 1)).length := by
  rw [epN, h]
  dsimp only
  rw [if_neg hs, epSet_len]
  unfold epOpen
  split
  · simp
  · rename_i h1
    cases i with
    | zero => exact absurd (.inl rfl) h1
    | succ j =>
      have h2 : ¬ L.getD j 0 = 0 := fun h3 => h1 (.inr h3)
      cases hj : L[j]? with
      | none => rw [List.getD_eq_getElem?_getD, hj] at h2; exact absurd rfl h2
      | some t =>
        rw [List.getD_eq_getElem?_getD, hj] at h2
        exact epN_ne hj h2
theorem epOpen_ne {fr : Int} {L : List Int} {i : Nat} : 0 < (epOpen fr L i (epN fr L i)).length := by
  unfold epOpen
  split
  · simp
  · rename_i h1
    cases i with
    | zero => exact absurd (.inl rfl) h1
    | succ j =>
      have h2 : ¬ L.getD j 0 = 0 := fun h3 => h1 (.inr h3)
      cases hj : L[j]? with
      | none => rw [List.getD_eq_getElem?_getD, hj] at h2; exact absurd rfl h2
      | some t => rw [List.getD_eq_getElem?_getD, hj] at h2; exact epN_ne hj h2
end Go.Proofs.Ytecmigildpkigaa
namespace Go.Proofs.Ytecmigildpkigaa
open Go Go.SL Go.RowKit
set_option linter.unusedVariables false
set_option linter.unusedSimpArgs false
theorem tA27tq : aggB Try.prog 27 8 = true := by kernel_rfl
theorem tA32tq : aggB Try.prog 32 7 = true := by kernel_rfl
theorem tB114tq : placesB Try.prog 114 = some ([(0, 1), (1, 1), (2, 1)], [Value.int .i64 0, Value.int .i64 0, Value.int .i64 0]) := by kernel_rfl
theorem tF114_1tq : fieldB Try.prog 114 1 1 = true := by kernel_rfl
theorem tF114_2tq : fieldB Try.prog 114 2 2 = true := by kernel_rfl
theorem tF32_4tq : fieldB Try.prog 32 4 5 = true := by kernel_rfl
theorem tL110_1tq : zerosB Try.prog 110 114 3 1 = some [Value.int .i64 0, Value.int .i64 0, Value.int .i64 0] := by kernel_rfl
theorem tO3tq : oneB Try.prog 3 = true := by kernel_rfl
theorem tP110tq : appB Try.prog 110 114 3 24 = true := by kernel_rfl
theorem tS110tq : sliceB Try.prog 110 114 3 = true := by kernel_rfl
theorem tS30tq : sliceB Try.prog 30 3 1 = true := by kernel_rfl
abbrev EpL := List EpV
theorem w_hdr {P : Program} {σ : World} {n : Nat} {F : List Res} {e : Env} {R B0 : RL} {Q : Exit → Act → World → Prop} {c : Code} {E k : Nat} {a : Option Addr} {m cc : Nat} {xs : List (List Value)} (m' l l' : Nat) (ht : takeL R [l] = some ([(l, slO E k (.slice a m cc) xs)], B0)) (he : m = m') (kk : W P σ n c Q e ((l', slO E k (.slice a m' cc) xs) :: B0) F) : W P σ n c Q e R F := by
  subst he
  exact w_cls [l] (A := [(l, slO E k (.slice a m cc) xs)]) (C := [(l', slO E k (.slice a m cc) xs)]) (fun F w h => h) ht kk
abbrev OAd := Option Addr
set_option maxHeartbeats 1000000 in
set_option maxRecDepth 100000 in
theorem episodes_any {σ : World} {F : List Res} {r : RuV} {x y : SeV} {l : RingV} (lab : Nat) (hc : CinOk r x y) (hl : PairB l) (hx1 : x.vals = l.map Prod.fst) (hy1 : y.vals = l.map Prod.snd) (gx : Sl σ F SL.encZ 1 (.slice x.a x.vals.length x.c) x.vals) (gy : Sl σ F SL.encZ 1 (.slice y.a y.vals.length y.c) y.vals) :
    FnT Try.prog σ F 45 [.agg (encRu r).toArray, .agg (encSe x).toArray, .agg (encSe y).toArray] [] (fun u ρ => ∃ (a : Option Addr) (c : Nat), u = .tuple #[.slice a (epN x.fr (statesL r l l.length) l.length).length c, .int .i64 0] ∧ ρ = [(lab, slW 114 encEp 3 (.slice a (epN x.fr (statesL r l l.length) l.length).length c) (epN x.fr (statesL r l l.length) l.length))]) := by
  refine fn_of 78 Try.func45 rfl Try.ntmps45 rfl ?_
  have hfr := hc.xo.fr
  obtain ⟨hl1, hl2⟩ := hl
  obtain ⟨L, hL⟩ : ∃ L, L = statesL r l l.length := ⟨_, rfl⟩
  have hLl : L.length = l.length := by rw [hL, statesL_len]
  rw [← hL]
  refine w_seq (w_region (wl_op [] rfl rfl rfl rfl (op_box (T := 27) (l := 3) rfl) ?_))
  rintro _ _ ⟨b3, rfl, rfl⟩
  refine wl_op [] rfl rfl rfl rfl (op_box (T := 32) (l := 4) rfl) ?_
  rintro _ _ ⟨b4, rfl, rfl⟩
  refine wl_op [] rfl rfl rfl rfl (op_box (T := 32) (l := 5) rfl) ?_
  rintro _ _ ⟨b5, rfl, rfl⟩
  refine za rfl (za rfl (wl_nil (st_tn (w_seq (w_region (zd rfl (op_loadA rfl tA27tq (Ent.lab (l := 3) rfl (says_cel 0)) (Nat.le_of_ble_eq_true rfl)) (zd rfl (op_loadA rfl tA32tq (Ent.lab (l := 4) rfl (says_cel 0)) (Nat.le_of_ble_eq_true rfl)) (zd rfl (op_loadA rfl tA32tq (Ent.lab (l := 5) rfl (says_cel 0)) (Nat.le_of_ble_eq_true rfl)) (wl_op [] rfl rfl rfl rfl (op_fn Try.func7 rfl rfl rfl (fn_imp (states_any 19 hc ⟨hl1, hl2⟩ hx1 hy1 (gx.app _) (gy.app _)) (fun u ρ hu => (by rw [← hL] at hu; exact hu : ∃ (a : Option Addr) (c : Nat), u = .tuple #[.slice a L.length c, .int .i64 0] ∧ ρ = [(19, slW 3 SL.encZ 1 (.slice a L.length c) L)])))) ?_)))))))))
  rintro _ _ ⟨a19, c19, rfl, rfl⟩
  refine zm rfl (zd rfl (op_extract rfl rfl) (zd rfl (op_extract rfl rfl) (za rfl (za rfl (wl_nil (st_tn (w_seq (w_seq (w_region (zm rfl (zd rfl (op_val (v' := .bool false) (by rfl) (op_neq rfl rfl)) ?_)))))))))))
  refine wl_nil (st_tn (w_cond_f (rfl) ?_))
  refine w_skip (st_tn (w_seq (w_region (za rfl (wl_nil (st_tn (w_seq (w_seq (w_emp 10 (slO_nil 114 3) ?_)))))))))
  refine w_region (zm rfl (zd rfl (op_lenT rfl tS30tq (Sl.ent (Sl.lab 19 rfl (by unfold maxLen; omega)))) ?_))
  refine zm rfl (wl_nil (st_tn (w_block ?_)))
  refine w_loopQ (X := Nat × EpL × OAd × Nat × Nat) (fun z => (z.1 ≤ L.length ∧ z.2.2.2.1 = z.2.1.length) ∧ z.2.1 = epN x.fr L z.1) (fun z => [(27, .int .i64 (z.1)), (10, .slice (z.2.2.1) (z.2.2.2.1) (z.2.2.2.2))]) (fun z => [(10, slW 114 encEp 3 (.slice (z.2.2.1) (z.2.2.2.1) (z.2.2.2.2)) (z.2.1))]) (fun z => L.length - z.1) ((0, [], none, 0, 0)) [(4, _), (8, _), (25, _), (26, _)] [(4, _), (19, _)] [10, 4, 19] rfl (rfl) (.cons rfl (.cons rfl (.nil _))) (.cons rfl (.cons rfl (.cons rfl (.cons rfl (.nil _))))) (by
      try dsimp only
      exact ⟨⟨Nat.zero_le _, rfl⟩, rfl⟩) ?_
  rintro ⟨i, out, ao, n, co⟩ ⟨⟨hi, hn⟩, ho⟩
  refine w_norm2 (by dsimp only [List.cons_append, List.nil_append]) (by dsimp only [List.cons_append, List.nil_append]) ?_
  try dsimp only at hi hn ho ⊢
  refine w_seq (w_region (zd rfl (op_lss rfl rfl) (wl_nil (st_tn (w_seq (w_cond_d rfl (fun hc28 => ?_) (fun hc28 => ?_)))))))
  · -- c28.t
    obtain ⟨s, hs⟩ := getE (l := L) (i := i) (by omega)
    have hle := epN_len x.fr L i
    rw [← ho] at hle
    refine w_skip (st_tn (w_seq (w_block (w_seq (w_region (zm rfl (zd rfl (op_idx rfl rfl tS30tq (Sl.ent (Sl.lab 19 rfl (by unfold maxLen; omega))) (by omega)) ?_)))))))
    refine zd rfl (op_ldx rfl tO3tq (Sl.lab 19 rfl (by unfold maxLen; omega)) (by assumption) (by rfl)) ?_
    refine za rfl (za rfl (wl_nil (st_tn (w_seq (w_region (zd rfl (op_fieldAddr (off := 5) rfl tF32_4tq) (zd rfl (op_load1 rfl tO3tq (Ent.lab (l := 4) rfl (says_cel 5))) (zm rfl (zd rfl (op_add' rfl rfl (by omega)) ?_)))))))))
    refine za rfl (wl_nil (st_tn (w_seq (w_seq (w_region (zm rfl (zd rfl (op_eql rfl rfl) (wl_nil (st_tn (w_cond_d rfl (fun hc37 => ?_) (fun hc37 => ?_)))))))))))
    · -- c37.t
      refine w_exit (st_te ?_)
      refine st_be (st_tn (w_region (zd rfl (op_add' rfl rfl (by omega)) ?_)))
      refine zm rfl (wl_nil ?_)
      refine st_roundQ (x := (i, out, ao, n, co)) ((i + 1, out, ao, n, co)) [10, 4, 19] rfl (rfl) (.cons rfl (.cons rfl (.nil _))) (.cons rfl (.cons rfl (.cons rfl (.cons rfl (.nil _))))) (by
          try dsimp only
          exact ⟨⟨by omega, hn⟩, by rw [epN, hs]; dsimp only; rw [if_pos hc37]; exact ho⟩) (by
          try dsimp only
          omega)
    · -- c37.f
      have hne := epOpen_ne (fr := x.fr) (L := L) (i := i)
      rw [← ho] at hne
      refine w_skip (st_tn (w_seq (w_seq (w_cutL [(47, .bool (decide (i = 0 ∨ L.getD (i - 1) 0 = 0)))] [4, 8, 10, 12, 13, 25, 26, 27] [10, 4, 19] rfl (fun K' hK => ?_) ?_))))
      · -- cut r10
        refine w_region (zm rfl (zd rfl (op_eql rfl rfl) (zm rfl (wl_gsplit (t := 40) rfl (fun hg40 => ?_) (fun hg40 => ?_)))))
        · -- 40 is True
          refine wl_unwanted rfl rfl rfl rfl rfl rfl rfl rfl (wl_unwanted rfl rfl rfl rfl rfl rfl rfl rfl (wl_unwanted rfl rfl rfl rfl rfl rfl rfl rfl (wl_unwanted rfl rfl rfl rfl rfl rfl rfl rfl (wl_unwanted rfl rfl rfl rfl rfl rfl rfl rfl (wl_unwanted rfl rfl rfl rfl rfl rfl rfl rfl (zd rfl (op_pick_t rfl rfl) (wl_nil (st_tn ?_))))))))
          exact cut_done1 [10, 4, 19] hK rfl (by first | (rw [decide_eq_decide, hpd]; omega) | (symm; rw [decide_eq_true_iff]; omega)) (by rfl) rfl rfl
        · -- 40 is False
          obtain ⟨pv, hpv⟩ := getE (l := L) (i := ((i : Int) - 1).toNat) (by omega)
          have hpd : L.getD (i - 1) 0 = pv := by rw [List.getD_eq_getElem?_getD, show i - 1 = ((i : Int) - 1).toNat by omega, hpv]; rfl
          refine wl_wanted_det rfl rfl rfl rfl rfl rfl rfl (op_move rfl) (wl_wanted_det rfl rfl rfl rfl rfl rfl rfl (op_move rfl) (wl_wanted_det rfl rfl rfl rfl rfl rfl rfl (op_sub' rfl rfl (by omega)) ?_))
          refine wl_wanted_det rfl rfl rfl rfl rfl rfl rfl (op_idxZ rfl rfl tS30tq (Sl.ent (Sl.lab 19 rfl (by unfold maxLen; omega))) (by omega) (by omega)) ?_
          refine wl_wanted_det rfl rfl rfl rfl rfl rfl rfl (op_ldx rfl tO3tq (Sl.lab 19 rfl (by unfold maxLen; omega)) (by assumption) (by rfl)) ?_
          refine wl_wanted_det rfl rfl rfl rfl rfl rfl rfl (op_eql rfl rfl) (zd rfl (op_pick_f rfl rfl) (wl_nil (st_tn ?_)))
          exact cut_done1 [10, 4, 19] hK rfl (by first | (rw [decide_eq_decide, hpd]; omega) | (symm; rw [decide_eq_true_iff]; omega)) (by rfl) rfl rfl
      · -- behind r10
        show W _ _ _ _ _ [(47, _), (4, _), (8, _), (10, _), (12, _), (13, _), (25, _), (26, _), (27, _)] [(10, _), (4, _), (19, _)] _
        refine w_cond_d rfl (fun hc47 => ?_) (fun hc47 => ?_)
        · -- c47.t
          refine w_region (zm rfl (zm rfl (zd rfl (op_build tB114tq rfl rfl) (wl_op [] rfl rfl rfl rfl (op_buildSlice (enc := encEp) (l := [(x.fr + i, 0, -1)]) (lab := 51) tL110_1tq rfl rfl (fun _ => rfl) rfl) ?_))))
          rintro _ _ ⟨a51, c51, rfl, rfl⟩
          refine wl_op [10] rfl rfl rfl rfl (op_append (lab := 10) (lab' := 52) rfl rfl tP110tq enc1Ep (Sl.lab 51 rfl (by simp [maxLen])) (by first | omega | (simp; done) | (simp; omega) | (simp [*]; omega)) (by first | omega | (simp; done) | (simp; omega) | (simp [*]; omega))) ?_
          rintro _ _ ⟨a52, c52, rfl, rfl⟩
          refine za rfl (wl_nil (st_tn (w_seq (Exists.elim (⟨out ++ [(x.fr + i, 0, -1)], rfl⟩ : ∃ o : EpL, o = out ++ [(x.fr + i, 0, -1)]) (fun o hoq => ?_)))))
          refine w_cls [52] (A := [(52, slW 114 encEp 3 (.slice a52 (out ++ [(x.fr + i, 0, -1)]).length c52) (out ++ [(x.fr + i, 0, -1)]))]) (C := [(650, slW 114 encEp 3 (.slice a52 o.length c52) o)]) (fun F w h => by rw [hoq]; exact h) rfl ?_
          have hoo : epOpen x.fr L i out = o := by unfold epOpen; rw [if_pos hc47]; exact hoq.symm
          rw [hoo] at hne
          refine Exists.elim (⟨o.length - 1, by omega⟩ : ∃ m : Nat, m + 1 = o.length) (fun m hm => ?_)
          refine Exists.elim (getE (l := o) (i := m) (by omega)) (fun q hq => ?_)
          have hq2 : (o.set m (q.1, x.fr + i + 1, q.2.2))[m]? = some (q.1, x.fr + i + 1, q.2.2) := List.getElem?_set_self (by omega)
          have hol : o.length ≤ 101 := by rw [hoq]; first | (rw [List.length_append, List.length_singleton]; omega) | omega
          refine w_region (zd rfl (op_val (v' := .slice a52 o.length c52) (by rw [hoq]) (op_move rfl)) ?_)
          refine zd rfl (op_val (v' := .slice a52 o.length c52) (by rw [hoq]) (op_move rfl)) ?_
          refine zd rfl (op_lenT rfl tS110tq (Sl.ent (Sl.lab 650 rfl (by unfold maxLen; omega)))) ?_
          refine zd rfl (op_val (v' := .int .i64 ((m : Nat) : Int)) (by rw [show ((m : Nat) : Int) = (o.length : Int) - 1 by omega]) (op_sub' rfl rfl (by omega))) ?_
          refine zd rfl (op_idx rfl rfl tS110tq (Sl.ent (Sl.lab 650 rfl (by unfold maxLen; omega))) (by omega)) ?_
          refine za rfl (wl_nil (st_tn (w_seq (w_region (zm rfl (zm rfl (zd rfl (op_add' rfl rfl (by omega)) ?_)))))))
          refine zd rfl (op_nilCheck rfl) (zd rfl (op_fieldAddr (off := 1) rfl tF114_1tq) (wl_op0 [650] rfl rfl rfl (op_storeX (lab := 650) (i := m) (j := 1) (b' := (q.1, x.fr + i + 1, q.2.2)) rfl rfl tO3x rfl rfl rfl hq (by decide) rfl) ?_))
          rintro _ _ ⟨rfl, rfl⟩
          refine wl_nil (st_tn (w_seq (w_cutL [(71, .bool (decide (s = 2 ∧ q.2.2 < 0)))] [4, 8, 10, 13, 14, 25, 26, 27] [650, 4, 19] rfl (fun K' hK => ?_) ?_)))
          · -- cut r14
            refine w_region (zm rfl (zd rfl (op_eql rfl rfl) (zm rfl (wl_gsplit (t := 65) rfl (fun hg65 => ?_) (fun hg65 => ?_)))))
            · -- 65 is True
              refine wl_wanted_det rfl rfl rfl rfl rfl rfl rfl (op_move rfl) (wl_wanted_det rfl rfl rfl rfl rfl rfl rfl (op_nilCheck rfl) (wl_wanted_det rfl rfl rfl rfl rfl rfl rfl (op_fieldAddr (off := 2) rfl tF114_2tq) (wl_wanted_det rfl rfl rfl rfl rfl rfl rfl (op_ldxf (i := m) (j := 2) rfl tO3x (Sl.lab (v := .slice a52 o.length c52) 650 rfl (by rw [List.length_set]; unfold maxLen; omega)) hq2 (by rfl)) ?_)))
              refine wl_wanted_det rfl rfl rfl rfl rfl rfl rfl (op_lss rfl rfl) (zd rfl (op_pick_t rfl rfl) (wl_nil (st_tn ?_)))
              exact cut_done1 [650, 4, 19] hK rfl (by first | (rw [decide_eq_decide]; omega) | (symm; rw [decide_eq_false_iff_not]; omega) | (symm; rw [decide_eq_true_iff]; omega) | (simp; done) | (simp; omega) | (simp [*]; done) | (simp [*]; omega)) (by rfl) rfl rfl
            · -- 65 is False
              refine wl_unwanted rfl rfl rfl rfl rfl rfl rfl rfl (wl_unwanted rfl rfl rfl rfl rfl rfl rfl rfl (wl_unwanted rfl rfl rfl rfl rfl rfl rfl rfl (wl_unwanted rfl rfl rfl rfl rfl rfl rfl rfl (wl_unwanted rfl rfl rfl rfl rfl rfl rfl rfl (zd rfl (op_pick_f rfl rfl) (wl_nil (st_tn ?_)))))))
              exact cut_done1 [650, 4, 19] hK rfl (by first | (rw [decide_eq_decide]; omega) | (symm; rw [decide_eq_false_iff_not]; omega) | (symm; rw [decide_eq_true_iff]; omega) | (simp; done) | (simp; omega) | (simp [*]; done) | (simp [*]; omega)) (by rfl) rfl rfl
          · -- behind r14
            show W _ _ _ _ _ [(71, _), (4, _), (8, _), (10, _), (13, _), (14, _), (25, _), (26, _), (27, _)] [(650, _), (4, _), (19, _)] _
            refine w_cond_d rfl (fun hc71 => ?_) (fun hc71 => ?_)
            · -- c71.t
              refine w_region (zm rfl (zm rfl (zd rfl (op_nilCheck rfl) (zd rfl (op_fieldAddr (off := 2) rfl tF114_2tq) (wl_op0 [650] rfl rfl rfl (op_storeX (lab := 650) (i := m) (j := 2) (b' := (q.1, x.fr + i + 1, x.fr + i)) rfl rfl tO3x rfl rfl rfl hq2 (by decide) rfl) ?_)))))
              rintro _ _ ⟨rfl, rfl⟩
              refine wl_nil (st_bn (st_tn (w_hdr ((out ++ [(x.fr + i, 0, -1)]).length) 650 10 rfl (by rw [hoq]) ?_)))
              refine w_region (zd rfl (op_add' rfl rfl (by omega)) ?_)
              refine zm rfl (wl_nil ?_)
              refine st_roundQ (x := (i, out, ao, n, co)) ((i + 1, (o.set m (q.1, x.fr + i + 1, q.2.2)).set m (q.1, x.fr + i + 1, x.fr + i), a52, (out ++ [(x.fr + i, 0, -1)]).length, c52)) [10, 4, 19] rfl (rfl) (.cons rfl (.cons rfl (.nil _))) (.cons rfl (.cons rfl (.cons rfl (.cons rfl (.nil _))))) (by
                  try dsimp only
                  refine ⟨⟨by omega, by rw [List.length_set, List.length_set, hoq]; try exact hn⟩, ?_⟩; rw [epN, hs]; dsimp only; rw [if_neg hc37, ← ho, hoo, epSet, show o.length - 1 = m by omega, hq]; dsimp only; rw [if_pos hc71, List.set_set]) (by
                  try dsimp only
                  omega)
            · -- c71.f
              refine w_skip (st_bn (st_tn (w_hdr ((out ++ [(x.fr + i, 0, -1)]).length) 650 10 rfl (by rw [hoq]) ?_)))
              refine w_region (zd rfl (op_add' rfl rfl (by omega)) ?_)
              refine zm rfl (wl_nil ?_)
              refine st_roundQ (x := (i, out, ao, n, co)) ((i + 1, o.set m (q.1, x.fr + i + 1, q.2.2), a52, (out ++ [(x.fr + i, 0, -1)]).length, c52)) [10, 4, 19] rfl (rfl) (.cons rfl (.cons rfl (.nil _))) (.cons rfl (.cons rfl (.cons rfl (.cons rfl (.nil _))))) (by
                  try dsimp only
                  refine ⟨⟨by omega, by rw [List.length_set, hoq]; try exact hn⟩, ?_⟩; rw [epN, hs]; dsimp only; rw [if_neg hc37, ← ho, hoo, epSet, show o.length - 1 = m by omega, hq]; dsimp only; rw [if_neg hc71]) (by
                  try dsimp only
                  omega)
        · -- c47.f
          refine w_skip (st_tn (w_seq (Exists.elim (⟨out, rfl⟩ : ∃ o : EpL, o = out) (fun o hoq => ?_))))
          refine w_cls [10] (A := [(10, slW 114 encEp 3 (.slice ao n co) (out))]) (C := [(650, slW 114 encEp 3 (.slice ao o.length co) o)]) (fun F w h => by rw [hoq, ← hn]; exact h) rfl ?_
          have hoo : epOpen x.fr L i out = o := by unfold epOpen; rw [if_neg hc47]; exact hoq.symm
          rw [hoo] at hne
          refine Exists.elim (⟨o.length - 1, by omega⟩ : ∃ m : Nat, m + 1 = o.length) (fun m hm => ?_)
          refine Exists.elim (getE (l := o) (i := m) (by omega)) (fun q hq => ?_)
          have hq2 : (o.set m (q.1, x.fr + i + 1, q.2.2))[m]? = some (q.1, x.fr + i + 1, q.2.2) := List.getElem?_set_self (by omega)
          have hol : o.length ≤ 101 := by rw [hoq]; first | (rw [List.length_append, List.length_singleton]; omega) | omega
          refine w_region (zd rfl (op_val (v' := .slice ao o.length co) (by rw [hoq, ← hn]) (op_move rfl)) ?_)
          refine zd rfl (op_val (v' := .slice ao o.length co) (by rw [hoq, ← hn]) (op_move rfl)) ?_
          refine zd rfl (op_lenT rfl tS110tq (Sl.ent (Sl.lab 650 rfl (by unfold maxLen; omega)))) ?_
          refine zd rfl (op_val (v' := .int .i64 ((m : Nat) : Int)) (by rw [show ((m : Nat) : Int) = (o.length : Int) - 1 by omega]) (op_sub' rfl rfl (by omega))) ?_
          refine zd rfl (op_idx rfl rfl tS110tq (Sl.ent (Sl.lab 650 rfl (by unfold maxLen; omega))) (by omega)) ?_
          refine za rfl (wl_nil (st_tn (w_seq (w_region (zm rfl (zm rfl (zd rfl (op_add' rfl rfl (by omega)) ?_)))))))
          refine zd rfl (op_nilCheck rfl) (zd rfl (op_fieldAddr (off := 1) rfl tF114_1tq) (wl_op0 [650] rfl rfl rfl (op_storeX (lab := 650) (i := m) (j := 1) (b' := (q.1, x.fr + i + 1, q.2.2)) rfl rfl tO3x rfl rfl rfl hq (by decide) rfl) ?_))
          rintro _ _ ⟨rfl, rfl⟩
          refine wl_nil (st_tn (w_seq (w_cutL [(71, .bool (decide (s = 2 ∧ q.2.2 < 0)))] [4, 8, 10, 13, 14, 25, 26, 27] [650, 4, 19] rfl (fun K' hK => ?_) ?_)))
          · -- cut r14
            refine w_region (zm rfl (zd rfl (op_eql rfl rfl) (zm rfl (wl_gsplit (t := 65) rfl (fun hg65 => ?_) (fun hg65 => ?_)))))
            · -- 65 is True
              refine wl_wanted_det rfl rfl rfl rfl rfl rfl rfl (op_move rfl) (wl_wanted_det rfl rfl rfl rfl rfl rfl rfl (op_nilCheck rfl) (wl_wanted_det rfl rfl rfl rfl rfl rfl rfl (op_fieldAddr (off := 2) rfl tF114_2tq) (wl_wanted_det rfl rfl rfl rfl rfl rfl rfl (op_ldxf (i := m) (j := 2) rfl tO3x (Sl.lab (v := .slice ao o.length co) 650 rfl (by rw [List.length_set]; unfold maxLen; omega)) hq2 (by rfl)) ?_)))
              refine wl_wanted_det rfl rfl rfl rfl rfl rfl rfl (op_lss rfl rfl) (zd rfl (op_pick_t rfl rfl) (wl_nil (st_tn ?_)))
              exact cut_done1 [650, 4, 19] hK rfl (by first | (rw [decide_eq_decide]; omega) | (symm; rw [decide_eq_false_iff_not]; omega) | (symm; rw [decide_eq_true_iff]; omega) | (simp; done) | (simp; omega) | (simp [*]; done) | (simp [*]; omega)) (by rfl) rfl rfl
            · -- 65 is False
              refine wl_unwanted rfl rfl rfl rfl rfl rfl rfl rfl (wl_unwanted rfl rfl rfl rfl rfl rfl rfl rfl (wl_unwanted rfl rfl rfl rfl rfl rfl rfl rfl (wl_unwanted rfl rfl rfl rfl rfl rfl rfl rfl (wl_unwanted rfl rfl rfl rfl rfl rfl rfl rfl (zd rfl (op_pick_f rfl rfl) (wl_nil (st_tn ?_)))))))
              exact cut_done1 [650, 4, 19] hK rfl (by first | (rw [decide_eq_decide]; omega) | (symm; rw [decide_eq_false_iff_not]; omega) | (symm; rw [decide_eq_true_iff]; omega) | (simp; done) | (simp; omega) | (simp [*]; done) | (simp [*]; omega)) (by rfl) rfl rfl
          · -- behind r14
            show W _ _ _ _ _ [(71, _), (4, _), (8, _), (10, _), (13, _), (14, _), (25, _), (26, _), (27, _)] [(650, _), (4, _), (19, _)] _
            refine w_cond_d rfl (fun hc71 => ?_) (fun hc71 => ?_)
            · -- c71.t
              refine w_region (zm rfl (zm rfl (zd rfl (op_nilCheck rfl) (zd rfl (op_fieldAddr (off := 2) rfl tF114_2tq) (wl_op0 [650] rfl rfl rfl (op_storeX (lab := 650) (i := m) (j := 2) (b' := (q.1, x.fr + i + 1, x.fr + i)) rfl rfl tO3x rfl rfl rfl hq2 (by decide) rfl) ?_)))))
              rintro _ _ ⟨rfl, rfl⟩
              refine wl_nil (st_bn (st_tn (w_hdr n 650 10 rfl (by rw [hoq, hn]) ?_)))
              refine w_region (zd rfl (op_add' rfl rfl (by omega)) ?_)
              refine zm rfl (wl_nil ?_)
              refine st_roundQ (x := (i, out, ao, n, co)) ((i + 1, (o.set m (q.1, x.fr + i + 1, q.2.2)).set m (q.1, x.fr + i + 1, x.fr + i), ao, n, co)) [10, 4, 19] rfl (rfl) (.cons rfl (.cons rfl (.nil _))) (.cons rfl (.cons rfl (.cons rfl (.cons rfl (.nil _))))) (by
                  try dsimp only
                  refine ⟨⟨by omega, by rw [List.length_set, List.length_set, hoq]; try exact hn⟩, ?_⟩; rw [epN, hs]; dsimp only; rw [if_neg hc37, ← ho, hoo, epSet, show o.length - 1 = m by omega, hq]; dsimp only; rw [if_pos hc71, List.set_set]) (by
                  try dsimp only
                  omega)
            · -- c71.f
              refine w_skip (st_bn (st_tn (w_hdr n 650 10 rfl (by rw [hoq, hn]) ?_)))
              refine w_region (zd rfl (op_add' rfl rfl (by omega)) ?_)
              refine zm rfl (wl_nil ?_)
              refine st_roundQ (x := (i, out, ao, n, co)) ((i + 1, o.set m (q.1, x.fr + i + 1, q.2.2), ao, n, co)) [10, 4, 19] rfl (rfl) (.cons rfl (.cons rfl (.nil _))) (.cons rfl (.cons rfl (.cons rfl (.cons rfl (.nil _))))) (by
                  try dsimp only
                  refine ⟨⟨by omega, by rw [List.length_set, hoq]; try exact hn⟩, ?_⟩; rw [epN, hs]; dsimp only; rw [if_neg hc37, ← ho, hoo, epSet, show o.length - 1 = m by omega, hq]; dsimp only; rw [if_neg hc71]) (by
                  try dsimp only
                  omega)
  · -- c28.f
    refine w_exit (st_te ?_)
    refine st_te ?_
    refine st_be (st_tn (w_seq (w_region (zm rfl (za rfl (za rfl (wl_nil (st_tn (w_ret (st_ret (vs := [_, _]) [10] Try.results45 ⟨rfl, ⟨rfl, trivial⟩⟩ rfl ?_))))))))))
    refine ⟨[(lab, _)], rfl, ?_⟩
    have hin : i = l.length := by omega
    rw [hn, ho, hin]; exact ⟨_, _, rfl, rfl⟩
end Go.Proofs.Ytecmigildpkigaa
namespace Go.Proofs.Ytecmigildpkigaa
open Go Go.SL Go.RowKit
set_option linter.unusedVariables false
set_option linter.unusedSimpArgs false
theorem tA114tr : aggB Try.prog 114 3 = true := by kernel_rfl
theorem tA27tr : aggB Try.prog 27 8 = true := by kernel_rfl
theorem tA32tr : aggB Try.prog 32 7 = true := by kernel_rfl
theorem tB109tr : placesB Try.prog 109 = some ([(0, 1), (1, 1)], [Value.int .u8 0, Value.slice none 0 0]) := by kernel_rfl
theorem tB114tr : placesB Try.prog 114 = some ([(0, 1), (1, 1), (2, 1)], [Value.int .i64 0, Value.int .i64 0, Value.int .i64 0]) := by kernel_rfl
theorem tB27tr : placesB Try.prog 27 = some ([(0, 1), (1, 1), (2, 1), (3, 1), (4, 1), (5, 1), (6, 1), (7, 1)], [Value.string .empty, Value.string .empty, Value.string .empty, Value.int .i64 0, Value.int .i64 0, Value.int .i64 0, Value.int .i64 0, Value.int .i64 0]) := by kernel_rfl
theorem tC72tr : arrZB Try.prog 72 2 1 = some [Value.int .u8 0, Value.int .u8 0] := by kernel_rfl
theorem tG114tr : Try.prog.eqGuardType Try.prog.depth 114 = false := by kernel_rfl
theorem tL22_5tr : zerosB Try.prog 22 72 2 5 = some [Value.int .u8 0, Value.int .u8 0, Value.int .u8 0, Value.int .u8 0, Value.int .u8 0, Value.int .u8 0, Value.int .u8 0, Value.int .u8 0, Value.int .u8 0, Value.int .u8 0] := by kernel_rfl
theorem tN27tr : (Try.prog.info? 27).bind (·.zero) = some (Value.agg #[Value.string .empty, Value.string .empty, Value.string .empty, Value.int .i64 0, Value.int .i64 0, Value.int .i64 0, Value.int .i64 0, Value.int .i64 0]) := by kernel_rfl
theorem tN32tr : (Try.prog.info? 32).bind (·.zero) = some (Value.agg #[Value.string .empty, Value.string .empty, Value.int .i64 0, Value.int .i64 0, Value.int .i64 0, Value.int .i64 0, Value.slice none 0 0]) := by kernel_rfl
theorem tS110tr : sliceB Try.prog 110 114 3 = true := by kernel_rfl
theorem tZ27tr : (Try.prog.info? 27).map (·.size) = some 8 := by kernel_rfl
theorem tZ32tr : (Try.prog.info? 32).map (·.size) = some 7 := by kernel_rfl
theorem eqEp (a b c d e f : Int) (w : World) : (Op.equal 114 (.agg #[.int .i64 a, .int .i64 b, .int .i64 c]) (.agg #[.int .i64 d, .int .i64 e, .int .i64 f])).run Try.prog w = .ok (decide ((a, b, c) = (d, e, f))) w := by
  have hs : Try.prog.stoodInHeld 114 = false := by kernel_rfl
  have hf : Try.prog.fieldsOf 114 = #[{ name := "From", type := 3, offset := 0, embedded := false, tag := "", pkgPath := "", byteOffset := 0 }, { name := "To", type := 3, offset := 1, embedded := false, tag := "", pkgPath := "", byteOffset := 8 }, { name := "Fired", type := 3, offset := 2, embedded := false, tag := "", pkgPath := "", byteOffset := 16 }] := by kernel_rfl
  have ha : ∀ w, (isAgg 3).run Try.prog w = .ok false w := fun w => by unfold isAgg; rw [Sem.run_bind, run_underlying Try.underlying3 w]; rfl
  show (Op.equalIn (9999 + 1) 114 _ _).run Try.prog w = _
  rw [run_equalIn_agg w 9999 114 _ _ (by kernel_rfl) hs, hf]
  simp only [Op.eqFields, List.toList_toArray]
  simp [part, Sem.run_bind, ha, run_equalIn_int w 9998 3 .i64 .i64 _ _ Try.underlying3, Op.eqFields]
  by_cases h1 : a = d <;> by_cases h2 : b = e <;> by_cases h3 : c = f <;> simp [h1, h2, h3, part, Sem.run_bind, ha, run_equalIn_int w 9998 3 .i64 .i64 _ _ Try.underlying3, Op.eqFields]
def kRu : RuV := ⟨⟨#[114]⟩, apiB, ⟨#[]⟩, 990000, 3, 1, 2000, 1⟩
def kLoad : RingV := [(100, 0), (100, 6), (100, 3), (100, 0), (100, 9)]
def kEps : List EpV := [(11, 13, 12), (14, 15, -1)]
theorem kEp : epN 10 (statesL kRu (kLoad.map pairI) (kLoad.map pairI).length) (kLoad.map pairI).length = kEps := by decide +kernel
theorem kRuOk : RuOk kRu := ⟨by decide +kernel, by decide +kernel, rfl, by decide, by decide, by decide, by decide⟩
theorem kCin (a1 a2 : Option Addr) (c1 c2 : Nat) : CinOk kRu (errI 10 kLoad a1 c1) (traI 10 kLoad a2 c2) where
  ro := kRuOk
  xo := ⟨kRuOk.n2, rfl, (show (1 : Int) ≤ 2 ∧ (2 : Int) ≤ 2 by decide), rfl, rfl, (show (0 : Int) ≤ 10 ∧ (10 : Int) ≤ 1000000 by decide), (show ((kLoad.map pairI).map Prod.fst).length ≤ 100 by decide), (show ∀ v ∈ (kLoad.map pairI).map Prod.fst, (0 : Int) ≤ v ∧ v ≤ 1000 by decide)⟩
  yo := ⟨kRuOk.n2, rfl, (show (1 : Int) ≤ 1 ∧ (1 : Int) ≤ 2 by decide), rfl, rfl, (show (0 : Int) ≤ 10 ∧ (10 : Int) ≤ 1000000 by decide), (show ((kLoad.map pairI).map Prod.snd).length ≤ 100 by decide), (show ∀ v ∈ (kLoad.map pairI).map Prod.snd, (0 : Int) ≤ v ∧ v ≤ 1000 by decide)⟩
  m1 := rfl
  m2 := rfl
  s1 := rfl
  s2 := rfl
  ef := rfl
  el := rfl
  le := fun i e t he ht => by
    have hi : i < 5 := (List.getElem?_eq_some_iff.1 he).1
    match i, hi with
    | 0, _ => simp [errI, traI, kLoad, pairI] at he ht; omega
    | 1, _ => simp [errI, traI, kLoad, pairI] at he ht; omega
    | 2, _ => simp [errI, traI, kLoad, pairI] at he ht; omega
    | 3, _ => simp [errI, traI, kLoad, pairI] at he ht; omega
    | 4, _ => simp [errI, traI, kLoad, pairI] at he ht; omega
theorem kPair : PairB (kLoad.map pairI) := ⟨by decide, by decide⟩
set_option maxHeartbeats 2000000 in
set_option maxRecDepth 100000 in
theorem known49 {σ : World} {F : List Res} : FnT Try.prog σ F 23 [] [] (fun u ρ => u = .bool true ∧ ρ = []) := by
  refine fn_of 74 Try.func23 rfl Try.ntmps23 rfl ?_
  refine w_seq (w_region (za rfl (wl_nil (st_tn (w_seq (w_region (zd rfl (op_build tB27tr rfl rfl) (wl_op [] rfl rfl rfl rfl (op_alloc (l := 1) tN27tr) ?_))))))))
  rintro _ _ ⟨b1, rfl, rfl⟩
  refine wl_op0 [1] rfl rfl rfl (op_store rfl rfl tZ27tr (by rfl) (by rfl) (by exact Nat.le_of_ble_eq_true rfl)) ?_
  rintro _ _ ⟨rfl, rfl⟩
  refine wl_nil (st_tn (w_seq (w_wk 1 (cel b1 (encRu kRu) 27) rfl (fun _ h => h) ?_)))
  refine w_region (zd rfl (op_buildArr tC72tr rfl rfl) (zd rfl (op_buildArr tC72tr rfl rfl) (zd rfl (op_buildArr tC72tr rfl rfl) (zd rfl (op_buildArr tC72tr rfl rfl) (zd rfl (op_buildArr tC72tr rfl rfl) (wl_op [] rfl rfl rfl rfl (op_buildSlice (enc := encP8) (l := kLoad) (lab := 17) tL22_5tr rfl rfl (fun _ => rfl) rfl) ?_))))))
  rintro _ _ ⟨a17, c17, rfl, rfl⟩
  refine zd rfl (op_build tB109tr rfl rfl) (wl_op [] rfl rfl rfl rfl (op_fn Try.func44 rfl rfl rfl (input_any 61 62 10 (by decide) (by decide) (by decide) (Sl.lab 17 rfl (by simp [maxLen, kLoad])))) ?_)
  rintro _ _ ⟨a61, a62, c61, c62, rfl, rfl⟩
  refine zm rfl (zd rfl (op_extract rfl rfl) (zd rfl (op_extract rfl rfl) (wl_op [] rfl rfl rfl rfl (op_alloc (l := 2) tN32tr) ?_)))
  rintro _ _ ⟨b2, rfl, rfl⟩
  refine wl_op [] rfl rfl rfl rfl (op_alloc (l := 3) tN32tr) ?_
  rintro _ _ ⟨b3, rfl, rfl⟩
  refine wl_op0 [2] rfl rfl rfl (op_store rfl rfl tZ32tr (by rfl) (by rfl) (by exact Nat.le_of_ble_eq_true rfl)) ?_
  rintro _ _ ⟨rfl, rfl⟩
  refine wl_op0 [3] rfl rfl rfl (op_store rfl rfl tZ32tr (by rfl) (by rfl) (by exact Nat.le_of_ble_eq_true rfl)) ?_
  rintro _ _ ⟨rfl, rfl⟩
  refine wl_nil (st_tn (w_seq (w_wk 2 (cel b2 (encSe (errI 10 kLoad a61 c61)) 32) rfl (fun _ h => h) ?_)))
  refine w_wk 3 (cel b3 (encSe (traI 10 kLoad a62 c62)) 32) rfl (fun _ h => h) ?_
  refine w_region (zd rfl (op_loadA rfl tA27tr (Ent.lab (l := 1) rfl (says_cel 0)) (Nat.le_of_ble_eq_true rfl)) (zd rfl (op_loadA rfl tA32tr (Ent.lab (l := 2) rfl (says_cel 0)) (Nat.le_of_ble_eq_true rfl)) (zd rfl (op_loadA rfl tA32tr (Ent.lab (l := 3) rfl (says_cel 0)) (Nat.le_of_ble_eq_true rfl)) (wl_op [] rfl rfl rfl rfl (op_fn Try.func45 rfl rfl rfl (fn_imp (episodes_any 26 (kCin a61 a62 c61 c62) kPair rfl rfl (Sl.lab 61 rfl (by simp [maxLen, errI, kLoad])) (Sl.lab 62 rfl (by simp [maxLen, traI, kLoad]))) (fun u ρ hu => (by rw [show (errI 10 kLoad a61 c61).fr = 10 from rfl, kEp] at hu; exact hu : ∃ (a : Option Addr) (c : Nat), u = .tuple #[.slice a kEps.length c, .int .i64 0] ∧ ρ = [(26, slW 114 encEp 3 (.slice a kEps.length c) kEps)])))) ?_))))
  rintro _ _ ⟨a26, c26, rfl, rfl⟩
  refine zm rfl (zd rfl (op_extract rfl rfl) (zd rfl (op_extract rfl rfl) (za rfl (za rfl (wl_nil (st_tn (w_seq (w_region (zd rfl (op_fn Try.func11 rfl rfl rfl (budget_any 250 990000 (by decide) (by decide))) ?_)))))))))
  refine zm rfl (zd rfl (op_extract rfl rfl) (zd rfl (op_extract rfl rfl) (za rfl (za rfl (wl_nil (st_tn (w_seq (w_region (zd rfl (op_fn Try.func12 rfl rfl rfl (Burn_any 5 250 990000 (by decide) (by decide) (by decide))) ?_)))))))))
  refine zm rfl (zd rfl (op_extract rfl rfl) (zd rfl (op_extract rfl rfl) (za rfl (za rfl (wl_nil (st_tn (w_seq ?_)))))))
  have hkl : kEps.length = 2 := rfl
  have hk0 : kEps[0]? = some (11, 13, 12) := rfl
  have hk1 : kEps[1]? = some (14, 15, -1) := rfl
  refine w_region (zm rfl (zd rfl (op_val (v' := .bool true) (by rfl) (op_eql rfl rfl)) ?_))
  refine zm rfl (wl_wanted_det rfl rfl rfl rfl rfl rfl rfl (op_move rfl) (wl_wanted_det rfl rfl rfl rfl rfl rfl rfl (op_lenT rfl tS110tr (Sl.ent (Sl.lab 26 rfl (by simp [maxLen, kLoad, kEps])))) ?_))
  refine wl_wanted_det rfl rfl rfl rfl rfl rfl rfl (op_val (v' := .bool true) (by rfl) (op_eql rfl rfl)) ?_
  refine zd rfl (op_pick_t rfl rfl) (zm rfl (wl_wanted_det rfl rfl rfl rfl rfl rfl rfl (op_move rfl) (wl_wanted_det rfl rfl rfl rfl rfl rfl rfl (op_idx (l := kEps) (enc := encEp) rfl rfl tS110tr (Sl.ent (Sl.lab 26 rfl (by simp [maxLen, kEps]))) (by decide)) ?_)))
  refine wl_wanted_det rfl rfl rfl rfl rfl rfl rfl (op_ldxA (l := kEps) (a := (11, 13, 12)) rfl tA114tr (Sl.lab 26 rfl (by simp [maxLen, kLoad, kEps])) hk0 (by rfl) (by rfl)) ?_
  refine wl_wanted_det rfl rfl rfl rfl rfl rfl rfl (op_build tB114tr rfl rfl) (wl_wanted_det rfl rfl rfl rfl rfl rfl rfl (op_val (v' := .bool true) (by rfl) (op_eqA rfl rfl tG114tr (eqEp _ _ _ _ _ _))) ?_)
  refine zd rfl (op_pick_t rfl rfl) (zm rfl (wl_wanted_det rfl rfl rfl rfl rfl rfl rfl (op_move rfl) (wl_wanted_det rfl rfl rfl rfl rfl rfl rfl (op_idx (l := kEps) (enc := encEp) rfl rfl tS110tr (Sl.ent (Sl.lab 26 rfl (by simp [maxLen, kEps]))) (by decide)) ?_)))
  refine wl_wanted_det rfl rfl rfl rfl rfl rfl rfl (op_ldxA (l := kEps) (a := (14, 15, -1)) rfl tA114tr (Sl.lab 26 rfl (by simp [maxLen, kLoad, kEps])) hk1 (by rfl) (by rfl)) ?_
  refine wl_wanted_det rfl rfl rfl rfl rfl rfl rfl (op_build tB114tr rfl rfl) (wl_wanted_det rfl rfl rfl rfl rfl rfl rfl (op_val (v' := .bool true) (by rfl) (op_eqA rfl rfl tG114tr (eqEp _ _ _ _ _ _))) ?_)
  refine zd rfl (op_pick_t rfl rfl) (zm rfl (wl_wanted_det rfl rfl rfl rfl rfl rfl rfl (op_move rfl) (wl_wanted_det rfl rfl rfl rfl rfl rfl rfl (op_val (v' := .bool true) (by rfl) (op_eql rfl rfl)) ?_)))
  refine zd rfl (op_pick_t rfl rfl) (zm rfl (wl_wanted_det rfl rfl rfl rfl rfl rfl rfl (op_move rfl) (wl_wanted_det rfl rfl rfl rfl rfl rfl rfl (op_val (v' := .bool true) (by rfl) (op_eql rfl rfl)) ?_)))
  refine zd rfl (op_pick_t rfl rfl) (zm rfl (wl_wanted_det rfl rfl rfl rfl rfl rfl rfl (op_move rfl) (wl_wanted_det rfl rfl rfl rfl rfl rfl rfl (op_val (v' := .bool true) (by rfl) (op_eql rfl rfl)) ?_)))
  refine zd rfl (op_pick_t rfl rfl) (zm rfl (wl_wanted_det rfl rfl rfl rfl rfl rfl rfl (op_move rfl) (wl_wanted_det rfl rfl rfl rfl rfl rfl rfl (op_val (v' := .bool true) (by rfl) (op_eql rfl rfl)) ?_)))
  refine zd rfl (op_pick_t rfl rfl) (za rfl (wl_nil (st_tn (w_ret (st_ret (vs := [_]) [] Try.results23 ⟨rfl, trivial⟩ rfl ?_)))))
  refine ⟨_, rfl, ?_⟩
  exact ⟨rfl, rfl⟩
set_option maxHeartbeats 400000 in
set_option maxRecDepth 100000 in
theorem Known49 {σ : World} {F : List Res} : FnT Try.prog σ F 5 [] [] (fun u ρ => u = .bool true ∧ ρ = []) := by
  refine fn_of 2 Try.func5 rfl Try.ntmps5 rfl ?_
  refine w_seq (w_region (za rfl (wl_nil (st_tn (w_seq (w_region (zd rfl (op_fn Try.func23 rfl rfl rfl known49) (za rfl (wl_nil (st_tn (w_ret (st_ret (vs := [_]) [] Try.results5 ⟨rfl, trivial⟩ rfl ?_))))))))))))
  refine ⟨_, rfl, ?_⟩
  exact ⟨rfl, rfl⟩
end Go.Proofs.Ytecmigildpkigaa
