/- The law SeriesMeasures (layer 43). Conditions: none. -/
import Derived.Test.YtbgddblfalahfaaSlZ
import Derived.Test.YtbgddblfalahfaaSBb
namespace Go.Proofs.Ytbgddblfalahfaa
open Go Go.SL Go.RowKit
set_option linter.unusedVariables false
set_option linter.unusedSimpArgs false
theorem tA37sl : aggB Try.prog 37 2 = true := by kernel_rfl
theorem tA46sl : aggB Try.prog 46 6 = true := by kernel_rfl
theorem tA48sl : aggB Try.prog 48 7 = true := by kernel_rfl
theorem tA68sl : aggB Try.prog 68 7 = true := by kernel_rfl
theorem tA74sl : aggB Try.prog 74 3 = true := by kernel_rfl
theorem tF37_0sl : fieldB Try.prog 37 0 0 = true := by kernel_rfl
theorem tF37_1sl : fieldB Try.prog 37 1 1 = true := by kernel_rfl
theorem tL70_1sl : zerosB Try.prog 70 74 3 1 = some [Value.int .i64 0, Value.int .i64 0, Value.slice none 0 0] := by kernel_rfl
theorem tMixsl : Try.prog.follows .mixedOrders = true := by kernel_rfl
theorem tN48sl : (Try.prog.info? 48).bind (·.zero) = some (Value.agg #[Value.string .empty, Value.string .empty, Value.int .i64 0, Value.int .i64 0, Value.int .i64 0, Value.int .i64 0, Value.slice none 0 0]) := by kernel_rfl
theorem tO3sl : oneB Try.prog 3 = true := by kernel_rfl
theorem tP70sl : appB Try.prog 70 74 3 40 = true := by kernel_rfl
theorem tS70sl : sliceB Try.prog 70 74 3 = true := by kernel_rfl
theorem tZ48sl : (Try.prog.info? 48).map (·.size) = some 7 := by kernel_rfl
theorem srt_eq {l l' : List Int} (h : l.Perm l') : srt l = srt l' :=
  List.Perm.eq_of_pairwise (le := fun a b => a ≤ b) (fun a b _ _ h1 h2 => Int.le_antisymm h1 h2) (srt_le l) (srt_le l') (((srt_perm l).trans h).trans (srt_perm l').symm)
theorem quant_perm {l l' : List Int} (h : l.Perm l') (x y : Int) : quantZ l x y = quantZ l' x y := by
  have h1 : (l = []) ↔ (l' = []) := ⟨fun e => by subst e; exact List.nil_perm.1 h, fun e => by subst e; exact List.perm_nil.1 h⟩
  unfold quantZ
  by_cases hl : l = []
  · rw [if_pos hl, if_pos (h1.1 hl)]
  · rw [if_neg hl, if_neg (fun e => hl (h1.2 e)), srt_eq h, h.length_eq]
theorem durT_perm {K K' : KT} (h : K.Perm K') (k : SK) (s : Int) : (durT k K s).Perm (durT k K' s) := (h.map _).flatten
theorem val_perm {K K' : KT} (h : K.Perm K') (k : SK) (s : Int) : valT k K s = valT k K' s := by
  unfold valT
  rw [quant_perm (durT_perm h k s), (durT_perm h k s).length_eq]
  unfold errT
  rw [(h.map _).sum_nat]
theorem ofR_perm {K K' : KT} (h : K.Perm K') (k : SK) (lo hi : Int) : ofR k K lo hi = ofR k K' lo hi := by
  unfold ofR
  rw [show valT k K = valT k K' from funext fun s => val_perm h k s]
section
variable {σ : World} {F : List Res} {a va : Option Addr} {c vn vc m : Nat} {T : List TrV} (lab : Nat) (k : SK) (fr lo hi : Int) (K : KT) (hm : m = T.length) (hKe : ofR k (T.map keyT) lo hi = ofR k K lo hi) (hT : Sl σ F encTr 3 (.slice a T.length c) T) (hSp : ∀ t ∈ T, Sl σ F encSp 14 (.slice t.a t.sp.length t.c) t.sp) (hO : TrOk T) (hG : GK k) (hlo : -9223372036854775808 ≤ lo ∧ lo ≤ 9223372036854775807) (hhi : -9223372036854775808 ≤ hi ∧ hi ≤ 9223372036854775807)
include hm hKe hT hSp hO hG hlo hhi
theorem of_len : FnT Try.prog σ F 36 [.slice a m c, sr k fr (.slice va vn vc), .agg #[.int .i64 lo, .int .i64 hi]] [] (SerV (ofR k K lo hi) lab) := by
  subst hm
  have h := of_any lab k fr lo hi (va := va) (vn := vn) (vc := vc) hT hSp hO hG.svc hG.op hG.q1 hG.q2 hlo hhi
  rw [hKe] at h; exact h
theorem lof_len : FnT Try.prog σ F 37 [.slice a m c, sr k fr (.slice va vn vc), .agg #[.int .i64 lo, .int .i64 hi]] [] (SerV (ofR k K lo hi) lab) := by
  subst hm
  have h := lof_any lab k fr lo hi (va := va) (vn := vn) (vc := vc) hT hSp hO hG.svc hG.op hG.q1 hG.q2 hlo hhi
  rw [hKe] at h; exact h
end
theorem lenv {σ : World} {F : List Res} {a : Option Addr} {c m n : Nat} {T : List TrV} (hm : m = n) (h : Sl σ F encTr 3 (.slice a n c) T) : Sl σ F encTr 3 (.slice a m c) T := by subst hm; exact h
set_option maxHeartbeats 4000000 in
set_option maxRecDepth 100000 in
theorem lawMeasures_any {σ : World} {F : List Res} {S : StoryV} {a : Option Addr} {c : Nat} {l : List Int} (x0 x1 x2 x3 x4 lo hi : Int) (hS : StOk σ F S) (h : Sl σ F encY 1 (.slice a l.length c) l) (hb : ∀ x ∈ l, 0 ≤ x ∧ x ≤ 255) (h0 : 0 ≤ x0 ∧ x0 ≤ 255) (h1 : 0 ≤ x1 ∧ x1 ≤ 255) (h2 : 0 ≤ x2 ∧ x2 ≤ 255) (h3 : 0 ≤ x3 ∧ x3 ≤ 255) (h4 : 0 ≤ x4 ∧ x4 ≤ 255) (hlo : -9223372036854775808 ≤ lo ∧ lo ≤ 9223372036854775807) (hhi : -9223372036854775808 ≤ hi ∧ hi ≤ 9223372036854775807) :
    FnT Try.prog σ F 8 [stV S, .agg #[.int .u8 x0, .int .u8 x1, .int .u8 x2, .int .u8 x3, .int .u8 x4, .slice a l.length c], .agg #[.int .i64 lo, .int .i64 hi]] [] (fun u ρ => u = .bool true ∧ ρ = []) := by
  refine fn_of 120 Try.func8 rfl Try.ntmps8 rfl ?_
  have hG := kG_ok x0 x1 x2 x3
  refine w_seq (w_region (wl_op [] rfl rfl rfl rfl (op_box (T := 68) (l := 3) rfl) ?_))
  rintro _ _ ⟨b3, rfl, rfl⟩
  refine wl_op [] rfl rfl rfl rfl (op_box (T := 46) (l := 4) rfl) ?_
  rintro _ _ ⟨b4, rfl, rfl⟩
  refine wl_op [] rfl rfl rfl rfl (op_box (T := 37) (l := 5) rfl) ?_
  rintro _ _ ⟨b5, rfl, rfl⟩
  refine za rfl (wl_nil (st_tn (w_seq (w_seq (w_cutL [(61, .bool (decide (¬ shortP S ∨ (((((lo ≥ 0 ∧ hi > lo) ∧ lo ≤ 1048576) ∧ hi - lo > 80) ∧ hi ≤ 1048577) ∧ hi - lo ≤ 1024))))] [3, 4, 5] [3, 4, 5] rfl (fun K' hK => ?_) ?_)))))
  · -- cut r1
    by_cases hsh1 : shortP S
    · -- hsh1+
      refine w_region (zd rfl (op_fn Try.func16 rfl rfl rfl (known_any)) (zd rfl (op_not_t rfl) (zm rfl (wl_wanted_det rfl rfl rfl rfl rfl rfl rfl (op_loadA rfl tA68sl (Ent.lab (l := 3) rfl (says_cel 0)) (Nat.le_of_ble_eq_true rfl)) (wl_wanted_det rfl rfl rfl rfl rfl rfl rfl (op_fn Try.func34 rfl rfl rfl (short_any (hS.app _))) (wl_wanted_det rfl rfl rfl rfl rfl rfl rfl (op_val (v' := .bool false) (by simp [hsh1]) (op_not_d rfl)) ?_))))))
      refine zd rfl (op_pick_f rfl rfl) (zm rfl (wl_wanted_det rfl rfl rfl rfl rfl rfl rfl (op_fieldAddr (off := 0) rfl tF37_0sl) (wl_wanted_det rfl rfl rfl rfl rfl rfl rfl (op_load1 rfl tO3sl (Ent.lab (l := 5) rfl (says_cel 0))) (wl_wanted_det rfl rfl rfl rfl rfl rfl rfl (op_geq rfl rfl) (wl_wanted_det rfl rfl rfl rfl rfl rfl rfl (op_move rfl) (wl_gsplit (t := 28) rfl (fun hg28 => ?_) (fun hg28 => ?_)))))))
      · -- 28 is True
        refine wl_wanted_det rfl rfl rfl rfl rfl rfl rfl (op_fieldAddr (off := 1) rfl tF37_1sl) (wl_wanted_det rfl rfl rfl rfl rfl rfl rfl (op_load1 rfl tO3sl (Ent.lab (l := 5) rfl (says_cel 1))) (wl_wanted_det rfl rfl rfl rfl rfl rfl rfl (op_fieldAddr (off := 0) rfl tF37_0sl) (wl_wanted_det rfl rfl rfl rfl rfl rfl rfl (op_load1 rfl tO3sl (Ent.lab (l := 5) rfl (says_cel 0))) (wl_wanted_det rfl rfl rfl rfl rfl rfl rfl (op_gtr rfl rfl) (wl_wanted_det rfl rfl rfl rfl rfl rfl rfl (op_pick_t rfl rfl) (wl_wanted_det rfl rfl rfl rfl rfl rfl rfl (op_move rfl) (wl_gsplit (t := 35) rfl (fun hg35 => ?_) (fun hg35 => ?_))))))))
        · -- 35 is True
          refine wl_wanted_det rfl rfl rfl rfl rfl rfl rfl (op_fieldAddr (off := 0) rfl tF37_0sl) (wl_wanted_det rfl rfl rfl rfl rfl rfl rfl (op_load1 rfl tO3sl (Ent.lab (l := 5) rfl (says_cel 0))) (wl_wanted_det rfl rfl rfl rfl rfl rfl rfl (op_leq rfl rfl) (wl_wanted_det rfl rfl rfl rfl rfl rfl rfl (op_pick_t rfl rfl) (wl_wanted_det rfl rfl rfl rfl rfl rfl rfl (op_move rfl) (wl_gsplit (t := 40) rfl (fun hg40 => ?_) (fun hg40 => ?_))))))
          · -- 40 is True
            refine wl_wanted_det rfl rfl rfl rfl rfl rfl rfl (op_fieldAddr (off := 1) rfl tF37_1sl) (wl_wanted_det rfl rfl rfl rfl rfl rfl rfl (op_load1 rfl tO3sl (Ent.lab (l := 5) rfl (says_cel 1))) (wl_wanted_det rfl rfl rfl rfl rfl rfl rfl (op_fieldAddr (off := 0) rfl tF37_0sl) (wl_wanted_det rfl rfl rfl rfl rfl rfl rfl (op_load1 rfl tO3sl (Ent.lab (l := 5) rfl (says_cel 0))) (wl_wanted_det rfl rfl rfl rfl rfl rfl rfl (op_sub' rfl rfl (by omega)) ?_))))
            refine wl_wanted_det rfl rfl rfl rfl rfl rfl rfl (op_gtr rfl rfl) (wl_wanted_det rfl rfl rfl rfl rfl rfl rfl (op_pick_t rfl rfl) (wl_wanted_det rfl rfl rfl rfl rfl rfl rfl (op_move rfl) (wl_gsplit (t := 48) rfl (fun hg48 => ?_) (fun hg48 => ?_))))
            · -- 48 is True
              refine wl_wanted_det rfl rfl rfl rfl rfl rfl rfl (op_fieldAddr (off := 1) rfl tF37_1sl) (wl_wanted_det rfl rfl rfl rfl rfl rfl rfl (op_load1 rfl tO3sl (Ent.lab (l := 5) rfl (says_cel 1))) (wl_wanted_det rfl rfl rfl rfl rfl rfl rfl (op_leq rfl rfl) (wl_wanted_det rfl rfl rfl rfl rfl rfl rfl (op_pick_t rfl rfl) (wl_wanted_det rfl rfl rfl rfl rfl rfl rfl (op_move rfl) (wl_gsplit (t := 53) rfl (fun hg53 => ?_) (fun hg53 => ?_))))))
              · -- 53 is True
                refine wl_wanted_det rfl rfl rfl rfl rfl rfl rfl (op_fieldAddr (off := 1) rfl tF37_1sl) (wl_wanted_det rfl rfl rfl rfl rfl rfl rfl (op_load1 rfl tO3sl (Ent.lab (l := 5) rfl (says_cel 1))) (wl_wanted_det rfl rfl rfl rfl rfl rfl rfl (op_fieldAddr (off := 0) rfl tF37_0sl) (wl_wanted_det rfl rfl rfl rfl rfl rfl rfl (op_load1 rfl tO3sl (Ent.lab (l := 5) rfl (says_cel 0))) (wl_wanted_det rfl rfl rfl rfl rfl rfl rfl (op_sub' rfl rfl (by omega)) ?_))))
                refine wl_wanted_det rfl rfl rfl rfl rfl rfl rfl (op_leq rfl rfl) (wl_wanted_det rfl rfl rfl rfl rfl rfl rfl (op_pick_t rfl rfl) (zd rfl (op_pick_f rfl rfl) (wl_nil (st_tn ?_))))
                exact cut_done1 [3, 4, 5] hK rfl (by first | (symm; rw [decide_eq_true_iff]; exact .inl hsh1) | (rw [decide_eq_decide]; exact ⟨fun h => .inr (by omega), fun h => by have h2 := h.resolve_left (fun hn => hn hsh1); omega⟩) | (symm; rw [decide_eq_false_iff_not]; intro h; have h2 := h.resolve_left (fun hn => hn hsh1); omega)) (by rfl) rfl rfl
              · -- 53 is False
                refine wl_unwanted rfl rfl rfl rfl rfl rfl rfl rfl (wl_unwanted rfl rfl rfl rfl rfl rfl rfl rfl (wl_unwanted rfl rfl rfl rfl rfl rfl rfl rfl (wl_unwanted rfl rfl rfl rfl rfl rfl rfl rfl (wl_unwanted rfl rfl rfl rfl rfl rfl rfl rfl (wl_unwanted rfl rfl rfl rfl rfl rfl rfl rfl (wl_wanted_det rfl rfl rfl rfl rfl rfl rfl (op_pick_f rfl rfl) (zd rfl (op_pick_f rfl rfl) (wl_nil (st_tn ?_)))))))))
                exact cut_done1 [3, 4, 5] hK rfl (by first | (symm; rw [decide_eq_true_iff]; exact .inl hsh1) | (rw [decide_eq_decide]; exact ⟨fun h => .inr (by omega), fun h => by have h2 := h.resolve_left (fun hn => hn hsh1); omega⟩) | (symm; rw [decide_eq_false_iff_not]; intro h; have h2 := h.resolve_left (fun hn => hn hsh1); omega)) (by rfl) rfl rfl
            · -- 48 is False
              refine wl_unwanted rfl rfl rfl rfl rfl rfl rfl rfl (wl_unwanted rfl rfl rfl rfl rfl rfl rfl rfl (wl_unwanted rfl rfl rfl rfl rfl rfl rfl rfl (wl_wanted_det rfl rfl rfl rfl rfl rfl rfl (op_pick_f rfl rfl) (wl_wanted_det rfl rfl rfl rfl rfl rfl rfl (op_move rfl) (wl_unwanted rfl rfl rfl rfl rfl rfl rfl rfl (wl_unwanted rfl rfl rfl rfl rfl rfl rfl rfl (wl_unwanted rfl rfl rfl rfl rfl rfl rfl rfl (wl_unwanted rfl rfl rfl rfl rfl rfl rfl rfl (wl_unwanted rfl rfl rfl rfl rfl rfl rfl rfl (wl_unwanted rfl rfl rfl rfl rfl rfl rfl rfl (wl_wanted_det rfl rfl rfl rfl rfl rfl rfl (op_pick_f rfl rfl) (zd rfl (op_pick_f rfl rfl) (wl_nil ?_)))))))))))))
              refine st_tn ?_
              exact cut_done1 [3, 4, 5] hK rfl (by first | (symm; rw [decide_eq_true_iff]; exact .inl hsh1) | (rw [decide_eq_decide]; exact ⟨fun h => .inr (by omega), fun h => by have h2 := h.resolve_left (fun hn => hn hsh1); omega⟩) | (symm; rw [decide_eq_false_iff_not]; intro h; have h2 := h.resolve_left (fun hn => hn hsh1); omega)) (by rfl) rfl rfl
          · -- 40 is False
            refine wl_unwanted rfl rfl rfl rfl rfl rfl rfl rfl (wl_unwanted rfl rfl rfl rfl rfl rfl rfl rfl (wl_unwanted rfl rfl rfl rfl rfl rfl rfl rfl (wl_unwanted rfl rfl rfl rfl rfl rfl rfl rfl (wl_unwanted rfl rfl rfl rfl rfl rfl rfl rfl (wl_unwanted rfl rfl rfl rfl rfl rfl rfl rfl (wl_wanted_det rfl rfl rfl rfl rfl rfl rfl (op_pick_f rfl rfl) (wl_wanted_det rfl rfl rfl rfl rfl rfl rfl (op_move rfl) (wl_unwanted rfl rfl rfl rfl rfl rfl rfl rfl (wl_unwanted rfl rfl rfl rfl rfl rfl rfl rfl (wl_unwanted rfl rfl rfl rfl rfl rfl rfl rfl (wl_wanted_det rfl rfl rfl rfl rfl rfl rfl (op_pick_f rfl rfl) (wl_wanted_det rfl rfl rfl rfl rfl rfl rfl (op_move rfl) (wl_unwanted rfl rfl rfl rfl rfl rfl rfl rfl ?_)))))))))))))
            refine wl_unwanted rfl rfl rfl rfl rfl rfl rfl rfl (wl_unwanted rfl rfl rfl rfl rfl rfl rfl rfl (wl_unwanted rfl rfl rfl rfl rfl rfl rfl rfl (wl_unwanted rfl rfl rfl rfl rfl rfl rfl rfl (wl_unwanted rfl rfl rfl rfl rfl rfl rfl rfl (wl_wanted_det rfl rfl rfl rfl rfl rfl rfl (op_pick_f rfl rfl) (zd rfl (op_pick_f rfl rfl) (wl_nil (st_tn ?_))))))))
            exact cut_done1 [3, 4, 5] hK rfl (by first | (symm; rw [decide_eq_true_iff]; exact .inl hsh1) | (rw [decide_eq_decide]; exact ⟨fun h => .inr (by omega), fun h => by have h2 := h.resolve_left (fun hn => hn hsh1); omega⟩) | (symm; rw [decide_eq_false_iff_not]; intro h; have h2 := h.resolve_left (fun hn => hn hsh1); omega)) (by rfl) rfl rfl
        · -- 35 is False
          refine wl_unwanted rfl rfl rfl rfl rfl rfl rfl rfl (wl_unwanted rfl rfl rfl rfl rfl rfl rfl rfl (wl_unwanted rfl rfl rfl rfl rfl rfl rfl rfl (wl_wanted_det rfl rfl rfl rfl rfl rfl rfl (op_pick_f rfl rfl) (wl_wanted_det rfl rfl rfl rfl rfl rfl rfl (op_move rfl) (wl_unwanted rfl rfl rfl rfl rfl rfl rfl rfl (wl_unwanted rfl rfl rfl rfl rfl rfl rfl rfl (wl_unwanted rfl rfl rfl rfl rfl rfl rfl rfl (wl_unwanted rfl rfl rfl rfl rfl rfl rfl rfl (wl_unwanted rfl rfl rfl rfl rfl rfl rfl rfl (wl_unwanted rfl rfl rfl rfl rfl rfl rfl rfl (wl_wanted_det rfl rfl rfl rfl rfl rfl rfl (op_pick_f rfl rfl) (wl_wanted_det rfl rfl rfl rfl rfl rfl rfl (op_move rfl) (wl_unwanted rfl rfl rfl rfl rfl rfl rfl rfl ?_)))))))))))))
          refine wl_unwanted rfl rfl rfl rfl rfl rfl rfl rfl (wl_unwanted rfl rfl rfl rfl rfl rfl rfl rfl (wl_wanted_det rfl rfl rfl rfl rfl rfl rfl (op_pick_f rfl rfl) (wl_wanted_det rfl rfl rfl rfl rfl rfl rfl (op_move rfl) (wl_unwanted rfl rfl rfl rfl rfl rfl rfl rfl (wl_unwanted rfl rfl rfl rfl rfl rfl rfl rfl (wl_unwanted rfl rfl rfl rfl rfl rfl rfl rfl (wl_unwanted rfl rfl rfl rfl rfl rfl rfl rfl (wl_unwanted rfl rfl rfl rfl rfl rfl rfl rfl (wl_unwanted rfl rfl rfl rfl rfl rfl rfl rfl (wl_wanted_det rfl rfl rfl rfl rfl rfl rfl (op_pick_f rfl rfl) (zd rfl (op_pick_f rfl rfl) (wl_nil (st_tn ?_)))))))))))))
          exact cut_done1 [3, 4, 5] hK rfl (by first | (symm; rw [decide_eq_true_iff]; exact .inl hsh1) | (rw [decide_eq_decide]; exact ⟨fun h => .inr (by omega), fun h => by have h2 := h.resolve_left (fun hn => hn hsh1); omega⟩) | (symm; rw [decide_eq_false_iff_not]; intro h; have h2 := h.resolve_left (fun hn => hn hsh1); omega)) (by rfl) rfl rfl
      · -- 28 is False
        refine wl_unwanted rfl rfl rfl rfl rfl rfl rfl rfl (wl_unwanted rfl rfl rfl rfl rfl rfl rfl rfl (wl_unwanted rfl rfl rfl rfl rfl rfl rfl rfl (wl_unwanted rfl rfl rfl rfl rfl rfl rfl rfl (wl_unwanted rfl rfl rfl rfl rfl rfl rfl rfl (wl_wanted_det rfl rfl rfl rfl rfl rfl rfl (op_pick_f rfl rfl) (wl_wanted_det rfl rfl rfl rfl rfl rfl rfl (op_move rfl) (wl_unwanted rfl rfl rfl rfl rfl rfl rfl rfl (wl_unwanted rfl rfl rfl rfl rfl rfl rfl rfl (wl_unwanted rfl rfl rfl rfl rfl rfl rfl rfl (wl_wanted_det rfl rfl rfl rfl rfl rfl rfl (op_pick_f rfl rfl) (wl_wanted_det rfl rfl rfl rfl rfl rfl rfl (op_move rfl) (wl_unwanted rfl rfl rfl rfl rfl rfl rfl rfl (wl_unwanted rfl rfl rfl rfl rfl rfl rfl rfl ?_)))))))))))))
        refine wl_unwanted rfl rfl rfl rfl rfl rfl rfl rfl (wl_unwanted rfl rfl rfl rfl rfl rfl rfl rfl (wl_unwanted rfl rfl rfl rfl rfl rfl rfl rfl (wl_unwanted rfl rfl rfl rfl rfl rfl rfl rfl (wl_wanted_det rfl rfl rfl rfl rfl rfl rfl (op_pick_f rfl rfl) (wl_wanted_det rfl rfl rfl rfl rfl rfl rfl (op_move rfl) (wl_unwanted rfl rfl rfl rfl rfl rfl rfl rfl (wl_unwanted rfl rfl rfl rfl rfl rfl rfl rfl (wl_unwanted rfl rfl rfl rfl rfl rfl rfl rfl (wl_wanted_det rfl rfl rfl rfl rfl rfl rfl (op_pick_f rfl rfl) (wl_wanted_det rfl rfl rfl rfl rfl rfl rfl (op_move rfl) (wl_unwanted rfl rfl rfl rfl rfl rfl rfl rfl (wl_unwanted rfl rfl rfl rfl rfl rfl rfl rfl (wl_unwanted rfl rfl rfl rfl rfl rfl rfl rfl ?_)))))))))))))
        refine wl_unwanted rfl rfl rfl rfl rfl rfl rfl rfl (wl_unwanted rfl rfl rfl rfl rfl rfl rfl rfl (wl_unwanted rfl rfl rfl rfl rfl rfl rfl rfl (wl_wanted_det rfl rfl rfl rfl rfl rfl rfl (op_pick_f rfl rfl) (zd rfl (op_pick_f rfl rfl) (wl_nil (st_tn ?_))))))
        exact cut_done1 [3, 4, 5] hK rfl (by first | (symm; rw [decide_eq_true_iff]; exact .inl hsh1) | (rw [decide_eq_decide]; exact ⟨fun h => .inr (by omega), fun h => by have h2 := h.resolve_left (fun hn => hn hsh1); omega⟩) | (symm; rw [decide_eq_false_iff_not]; intro h; have h2 := h.resolve_left (fun hn => hn hsh1); omega)) (by rfl) rfl rfl
    · -- hsh1-
      refine w_region (zd rfl (op_fn Try.func16 rfl rfl rfl (known_any)) (zd rfl (op_not_t rfl) (zm rfl (wl_wanted_det rfl rfl rfl rfl rfl rfl rfl (op_loadA rfl tA68sl (Ent.lab (l := 3) rfl (says_cel 0)) (Nat.le_of_ble_eq_true rfl)) (wl_wanted_det rfl rfl rfl rfl rfl rfl rfl (op_fn Try.func34 rfl rfl rfl (short_any (hS.app _))) (wl_wanted_det rfl rfl rfl rfl rfl rfl rfl (op_val (v' := .bool true) (by simp [hsh1]) (op_not_d rfl)) ?_))))))
      refine zd rfl (op_pick_f rfl rfl) (zm rfl (wl_unwanted rfl rfl rfl rfl rfl rfl rfl rfl (wl_unwanted rfl rfl rfl rfl rfl rfl rfl rfl (wl_unwanted rfl rfl rfl rfl rfl rfl rfl rfl (wl_unwanted rfl rfl rfl rfl rfl rfl rfl rfl (wl_unwantedU rfl rfl rfl rfl rfl rfl rfl ?_))))))
      refine wl_unwantedU rfl rfl rfl rfl rfl rfl rfl ?_
      refine wl_unwantedU rfl rfl rfl rfl rfl rfl rfl ?_
      refine wl_unwantedU rfl rfl rfl rfl rfl rfl rfl ?_
      refine wl_unwantedU rfl rfl rfl rfl rfl rfl rfl ?_
      refine wl_unwanted rfl rfl rfl rfl rfl rfl rfl rfl (wl_unwanted rfl rfl rfl rfl rfl rfl rfl rfl (wl_unwantedU rfl rfl rfl rfl rfl rfl rfl ?_))
      refine wl_unwantedU rfl rfl rfl rfl rfl rfl rfl ?_
      refine wl_unwantedU rfl rfl rfl rfl rfl rfl rfl ?_
      refine wl_unwanted rfl rfl rfl rfl rfl rfl rfl rfl (wl_unwanted rfl rfl rfl rfl rfl rfl rfl rfl (wl_unwantedU rfl rfl rfl rfl rfl rfl rfl ?_))
      refine wl_unwantedU rfl rfl rfl rfl rfl rfl rfl ?_
      refine wl_unwantedU rfl rfl rfl rfl rfl rfl rfl ?_
      refine wl_unwantedU rfl rfl rfl rfl rfl rfl rfl ?_
      refine wl_unwantedU rfl rfl rfl rfl rfl rfl rfl ?_
      refine wl_unwantedU rfl rfl rfl rfl rfl rfl rfl ?_
      refine wl_unwanted rfl rfl rfl rfl rfl rfl rfl rfl (wl_unwanted rfl rfl rfl rfl rfl rfl rfl rfl (wl_unwantedU rfl rfl rfl rfl rfl rfl rfl ?_))
      refine wl_unwantedU rfl rfl rfl rfl rfl rfl rfl ?_
      refine wl_unwantedU rfl rfl rfl rfl rfl rfl rfl ?_
      refine wl_unwanted rfl rfl rfl rfl rfl rfl rfl rfl (wl_unwanted rfl rfl rfl rfl rfl rfl rfl rfl (wl_unwantedU rfl rfl rfl rfl rfl rfl rfl ?_))
      refine wl_unwantedU rfl rfl rfl rfl rfl rfl rfl ?_
      refine wl_unwantedU rfl rfl rfl rfl rfl rfl rfl ?_
      refine wl_unwantedU rfl rfl rfl rfl rfl rfl rfl ?_
      refine wl_unwantedU rfl rfl rfl rfl rfl rfl rfl ?_
      refine wl_unwantedU rfl rfl rfl rfl rfl rfl rfl ?_
      refine wl_unwanted rfl rfl rfl rfl rfl rfl rfl rfl (zd rfl (op_pick_t rfl rfl) (wl_nil (st_tn ?_)))
      exact cut_done1 [3, 4, 5] hK rfl (by first | (symm; rw [decide_eq_true_iff]; exact .inl hsh1) | (rw [decide_eq_decide]; exact ⟨fun h => .inr (by omega), fun h => by have h2 := h.resolve_left (fun hn => hn hsh1); omega⟩) | (symm; rw [decide_eq_false_iff_not]; intro h; have h2 := h.resolve_left (fun hn => hn hsh1); omega)) (by rfl) rfl rfl
  · -- behind r1
    show W _ _ _ _ _ [(61, _), (3, _), (4, _), (5, _)] [(3, _), (4, _), (5, _)] _
    refine w_cond_d rfl (fun hc61 => ?_) (fun hc61 => ?_)
    · -- c61.t
      refine w_seq (w_region (zd rfl (op_fn Try.func16 rfl rfl rfl (known_any)) (za rfl (wl_nil (st_tn (w_ret (st_tr (st_ret (vs := [_]) [] Try.results8 ⟨rfl, trivial⟩ rfl ?_))))))))
      refine ⟨_, rfl, ?_⟩
      exact ⟨rfl, rfl⟩
    · -- c61.f
      refine w_skip (st_tn (w_seq ?_))
      have hsh : shortP S := Classical.byContradiction fun hn => hc61 (.inl hn)
      have hK := traces_ok hS.b hsh
      refine w_drawW (fun β => [⟨63, [], [], [], noW (_), false, [], []⟩, ⟨64, [0], [], [], fun w => DetW _ _, false, [], []⟩, ⟨65, [], [], [], noW (_), false, [], []⟩, ⟨66, [2], [], [], fun w => DetW _ _, false, [], []⟩, ⟨8, [], [], [], fun w => DetW _ _, false, [], []⟩]) [] [3, 4] [⟨63, [], [], false, [], []⟩, ⟨64, [0], [], false, [], []⟩, ⟨65, [], [], false, [], []⟩, ⟨66, [2], [], false, [], []⟩, ⟨8, [], [], false, [], []⟩] [[], [], [], [], []] [[], [], [], [], []] tMixsl (fun _ => by rfl) (fun _ => by rfl) (by kernel_rfl) (by kernel_rfl) (by rfl) (by rfl)
          (fun β => ⟨.p rfl (by intro X; exact op_loadA rfl tA68sl (Ent.lab (l := 3) rfl (says_cel 0)) (Nat.le_of_ble_eq_true rfl)),
          ⟨.px rfl (by intro X; rintro _ _ ⟨rfl, rfl⟩; refine OpT.mono (op_fn Try.func35 rfl rfl rfl (traces_c 64 ((hS.app _).app _) hsh)) ?_; rintro _ _ ⟨a64, c64, rfl, rfl⟩; obtain ⟨w, rfl, rfl⟩ : ∃ w : Wt, w.a = a64 ∧ w.c = c64 := ⟨{ a := a64, c := c64 }, rfl, rfl⟩; exact ⟨w, rfl, rfl⟩),
          ⟨.p rfl (by intro X; exact op_loadA rfl tA46sl (Ent.lab (l := 4) rfl (says_cel 0)) (Nat.le_of_ble_eq_true rfl)),
          ⟨.px rfl (by intro X; rintro _ _ ⟨rfl, rfl⟩; refine OpT.mono (op_fn Try.func20 rfl rfl rfl (series_any 66 _ _ _ _ _ (by first | exact Sl.app (by assumption) _ | exact Sl.app (Sl.app (by assumption) _) _) (by assumption) (by assumption) (by assumption) (by assumption) (by assumption) (by assumption))) ?_; rintro _ _ ⟨a66, c66, rfl, rfl⟩; obtain ⟨w, rfl, rfl⟩ : ∃ w : Wt, w.a = a66 ∧ w.c = c66 := ⟨{ a := a66, c := c66 }, rfl, rfl⟩; exact ⟨w, rfl, rfl⟩),
          ⟨.px rfl (by intro X; refine OpT.mono (op_alloc (l := 8) tN48sl) ?_; rintro _ _ ⟨b8, rfl, rfl⟩; obtain ⟨w, rfl⟩ : ∃ w : Wt, w.b = b8 := ⟨{ b := b8 }, rfl⟩; exact ⟨w, rfl, rfl⟩),
          trivial⟩⟩⟩⟩⟩)
          (fun β β' => ⟨fun _ => by rfl, ⟨fun _ => by rfl, ⟨fun _ => by rfl, ⟨fun _ => by rfl, ⟨fun _ => by rfl, trivial⟩⟩⟩⟩⟩) ?_
      intro β
      rintro _ _ ⟨rfl, rfl⟩ _ _ ⟨rfl, rfl⟩ _ _ ⟨rfl, rfl⟩ _ _ ⟨rfl, rfl⟩ _ _ ⟨rfl, rfl⟩
      generalize (β 1).a = a64
      generalize (β 1).c = c64
      generalize (β 3).a = a66
      generalize (β 3).c = c66
      generalize (β 4).b = b8
      refine wl_norm (e' := [(5, _), (8, _), (64, _), (66, _)]) (.cons rfl (.cons rfl (.cons rfl (.cons rfl (.nil _))))) (by dsimp only [cond_false, cond_true, List.nil_append, List.cons_append]) ?_
      refine za rfl (wl_op0 [8] rfl rfl rfl (op_store rfl rfl tZ48sl (by rfl) (by rfl) (by exact Nat.le_of_ble_eq_true rfl)) ?_)
      rintro _ _ ⟨rfl, rfl⟩
      refine wl_nil (st_tn (w_seq (w_opn 64 (trs_opens (tracesR S) a64 c64) (B := fun (y : TrI (tracesR S)) => cT a64 c64 y.1) rfl (fun y => ?_))))
      obtain ⟨⟨T, P⟩, hTk, hTP⟩ := y
      dsimp only at hTk hTP
      have hO : TrOk T := KtOk.tr (n := 3) (by rw [hTk]; exact hK) (by omega)
      have hTl : (tracesR S).length = T.length := by rw [← hTk, List.length_map]
      have hOl := hO.len
      have hspm : ∀ t ∈ T, t.sp.length ≤ maxLen := fun t ht => by have := hO.sp t ht; unfold maxLen; omega
      refine w_wk 74 (slW 74 encTr 3 (.slice a64 (tracesR S).length c64) T) rfl (fun _ h => by rw [hTl]; exact h) ?_
      refine w_region (za rfl (wl_nil (st_tn (w_seq (w_seq (w_region (zm rfl (zd rfl (op_lenT rfl tS70sl (Sl.ent (Sl.lab 74 rfl (by unfold maxLen; omega)))) ?_))))))))
      refine zd rfl (op_sub' rfl rfl (by omega)) ?_
      refine za rfl (wl_nil (st_tn (w_block (w_emp 9 (slO_nil 74 3) ?_))))
      refine w_loopQ (X := List TrV × Option Addr × Nat × Int) (fun z => -1 ≤ z.2.2.2 ∧ z.2.2.2 < T.length ∧ z.1 = (T.drop (z.2.2.2 + 1).toNat).reverse) (fun z => [(9, .slice (z.2.1) (z.1).length (z.2.2.1)), (10, .int .i64 (z.2.2.2))]) (fun z => [(9, slW 74 encTr 3 (.slice (z.2.1) (z.1).length (z.2.2.1)) (z.1))]) (fun z => (z.2.2.2 + 1).toNat) (([], none, 0, (T.length : Int) - 1)) [(5, _), (7, _), (8, _)] [(5, _), (8, _), (66, _), (74, _), (605, _)] [9, 5, 8, 66, 74, 605] rfl (rfl) (.cons rfl (.cons rfl (.nil _))) (.cons rfl (.cons rfl (.cons rfl (.nil _)))) (by
          try dsimp only
          exact ⟨by omega, by omega, by rw [List.drop_eq_nil_of_le (by omega)]; rfl⟩) ?_
      rintro ⟨bk, a_bk, c_bk, i⟩ ⟨hi1, hi2, hbk⟩
      refine w_norm2 (by dsimp only [List.cons_append, List.nil_append]) (by dsimp only [List.cons_append, List.nil_append]) ?_
      try dsimp only at hi1 hi2 hbk ⊢
      refine w_seq (w_seq (w_region (zm rfl (zd rfl (op_geq rfl rfl) (wl_nil (st_tn (w_cond_d rfl (fun hc71 => ?_) (fun hc71 => ?_))))))))
      · -- c71.t
        obtain ⟨x, hx⟩ := getE (l := T) (i := i.toNat) (by omega)
        have hbl : bk.length ≤ 100 := by rw [hbk, List.length_reverse, List.length_drop]; omega
        refine w_skip (st_tn (w_seq (w_block (w_region (zm rfl (zm rfl (zm rfl (zd rfl (op_idxZ rfl rfl tS70sl (Sl.ent (Sl.lab 74 rfl (by unfold maxLen; omega))) (by omega) (by omega)) ?_))))))))
        refine zd rfl (op_ldxA rfl tA74sl (Sl.lab 74 rfl (by unfold maxLen; omega)) (by assumption) (by rfl) (by rfl)) ?_
        refine wl_op [] rfl rfl rfl rfl (op_buildSlice (enc := encTr) (l := [x]) (lab := 79) tL70_1sl rfl rfl (fun _ => rfl) rfl) ?_
        rintro _ _ ⟨a79, c79, rfl, rfl⟩
        refine wl_op [9] rfl rfl rfl rfl (op_append (lab := 9) (lab' := 80) rfl rfl tP70sl enc1Tr (Sl.lab 79 rfl (by simp [maxLen])) (by first | omega | (simp; done) | (simp; omega) | (simp [*]; omega)) (by first | omega | (simp; done) | (simp; omega) | (simp [*]; omega))) ?_
        rintro _ _ ⟨a80, c80, rfl, rfl⟩
        refine za rfl (wl_nil (st_bn (st_tn (w_region (zm rfl (zd rfl (op_sub' rfl rfl (by omega)) ?_))))))
        refine za rfl (wl_nil ?_)
        refine st_roundQ (x := (bk, a_bk, c_bk, i)) ((_, _, _, i - 1)) [80, 5, 8, 66, 74, 605] rfl (rfl) (.cons rfl (.cons rfl (.nil _))) (.cons rfl (.cons rfl (.cons rfl (.nil _)))) (by
            try dsimp only
            refine ⟨by omega, by omega, ?_⟩
            obtain ⟨m, hm⟩ : ∃ m : Nat, (m : Int) = i := ⟨i.toNat, by omega⟩
            rw [show (i - 1 + 1).toNat = m by omega, show (T.drop m) = x :: T.drop (m + 1) by rw [List.drop_eq_getElem_cons (by omega)]; congr 1; have h9 := hx; rw [show i.toNat = m by omega, List.getElem?_eq_getElem (by omega)] at h9; exact Option.some.inj h9, List.reverse_cons, hbk, show (i + 1).toNat = m + 1 by omega]) (by
            try dsimp only
            omega)
      · -- c71.f
        refine w_exit (st_te ?_)
        refine st_te ?_
        refine st_be (st_tn (w_seq ?_))
        have hbT : bk = T.reverse := by rw [hbk, show (i + 1).toNat = 0 by omega]; rfl
        have hbl : bk.length ≤ 100 := by rw [hbT, List.length_reverse]; omega
        have hbO : TrOk bk := ⟨hbl, fun t ht => hO.sp t (by rw [hbT] at ht; exact List.mem_reverse.1 ht), fun t ht => hO.bd t (by rw [hbT] at ht; exact List.mem_reverse.1 ht)⟩
        have hbm : ∀ t ∈ bk, t ∈ T := fun t ht => by rw [hbT] at ht; exact List.mem_reverse.1 ht
        have hbK : ofR (kG x0 x1 x2 x3) (bk.map keyT) lo hi = ofR (kG x0 x1 x2 x3) (tracesR S) lo hi := ofR_perm (by rw [hbT, List.map_reverse, ← hTk]; exact List.reverse_perm _) _ _ _
        have hTK : ofR (kG x0 x1 x2 x3) (T.map keyT) lo hi = ofR (kG x0 x1 x2 x3) (tracesR S) lo hi := by rw [hTk]
        refine w_region (zm rfl (zd rfl (op_loadA rfl tA48sl (Ent.lab (l := 8) rfl (says_cel 0)) (Nat.le_of_ble_eq_true rfl)) (zd rfl (op_loadA rfl tA37sl (Ent.lab (l := 5) rfl (says_cel 0)) (Nat.le_of_ble_eq_true rfl)) (wl_op [] rfl rfl rfl rfl (op_fn Try.func36 rfl rfl rfl (of_len 85 (kG x0 x1 x2 x3) (x4 % 40) lo hi (tracesR S) hTl hTK (lenv hTl.symm (Sl.lab 74 rfl (by unfold maxLen; omega))) (fun t ht => Sl.pool (E := 111) 605 rfl (hTP t ht) (hspm t ht)) hO hG hlo hhi)) ?_))))
        rintro _ _ ⟨a85, c85, rfl, rfl⟩
        refine zm rfl (zd rfl (op_extract rfl rfl) (zd rfl (op_extract rfl rfl) (wl_op [] rfl rfl rfl rfl (op_alloc (l := 11) tN48sl) ?_)))
        rintro _ _ ⟨b11, rfl, rfl⟩
        refine wl_op0 [11] rfl rfl rfl (op_store rfl rfl tZ48sl (by rfl) (by rfl) (by exact Nat.le_of_ble_eq_true rfl)) ?_
        rintro _ _ ⟨rfl, rfl⟩
        refine za rfl (wl_nil (st_tn (w_seq (w_region (zm rfl (zd rfl (op_loadA rfl tA48sl (Ent.lab (l := 8) rfl (says_cel 0)) (Nat.le_of_ble_eq_true rfl)) (zd rfl (op_loadA rfl tA37sl (Ent.lab (l := 5) rfl (says_cel 0)) (Nat.le_of_ble_eq_true rfl)) (wl_op [] rfl rfl rfl rfl (op_fn Try.func36 rfl rfl rfl (of_len 92 (kG x0 x1 x2 x3) (x4 % 40) lo hi (tracesR S) rfl hbK (Sl.lab 9 rfl (by unfold maxLen; omega)) (fun t ht => Sl.pool (E := 111) 605 rfl (hTP t (hbm t ht)) (hspm t (hbm t ht))) hbO hG hlo hhi)) ?_))))))))
        rintro _ _ ⟨a92, c92, rfl, rfl⟩
        refine zm rfl (zd rfl (op_extract rfl rfl) (zd rfl (op_extract rfl rfl) (wl_op [] rfl rfl rfl rfl (op_alloc (l := 13) tN48sl) ?_)))
        rintro _ _ ⟨b13, rfl, rfl⟩
        refine wl_op0 [13] rfl rfl rfl (op_store rfl rfl tZ48sl (by rfl) (by rfl) (by exact Nat.le_of_ble_eq_true rfl)) ?_
        rintro _ _ ⟨rfl, rfl⟩
        refine za rfl (wl_nil (st_tn (w_seq (w_region (zm rfl (zd rfl (op_loadA rfl tA48sl (Ent.lab (l := 8) rfl (says_cel 0)) (Nat.le_of_ble_eq_true rfl)) (zd rfl (op_loadA rfl tA37sl (Ent.lab (l := 5) rfl (says_cel 0)) (Nat.le_of_ble_eq_true rfl)) (wl_op [] rfl rfl rfl rfl (op_fn Try.func37 rfl rfl rfl (lof_len 99 (kG x0 x1 x2 x3) (x4 % 40) lo hi (tracesR S) hTl hTK (lenv hTl.symm (Sl.lab 74 rfl (by unfold maxLen; omega))) (fun t ht => Sl.pool (E := 111) 605 rfl (hTP t ht) (hspm t ht)) hO hG hlo hhi)) ?_))))))))
        rintro _ _ ⟨a99, c99, rfl, rfl⟩
        refine zm rfl (zd rfl (op_extract rfl rfl) (zd rfl (op_extract rfl rfl) (wl_op [] rfl rfl rfl rfl (op_alloc (l := 15) tN48sl) ?_)))
        rintro _ _ ⟨b15, rfl, rfl⟩
        refine wl_op0 [15] rfl rfl rfl (op_store rfl rfl tZ48sl (by rfl) (by rfl) (by exact Nat.le_of_ble_eq_true rfl)) ?_
        rintro _ _ ⟨rfl, rfl⟩
        refine za rfl (wl_nil (st_tn (w_seq (w_region (zm rfl (zm rfl (zd rfl (op_val (v' := .bool true) (by simp) (op_eql rfl rfl)) ?_)))))))
        refine zm rfl (wl_wanted_det rfl rfl rfl rfl rfl rfl rfl (op_move rfl) (wl_wanted_det rfl rfl rfl rfl rfl rfl rfl (op_move rfl) (wl_wanted_det rfl rfl rfl rfl rfl rfl rfl (op_val (v' := .bool true) (by simp) (op_eql rfl rfl)) ?_)))
        refine zd rfl (op_pick_t rfl rfl) (zm rfl (wl_wanted_det rfl rfl rfl rfl rfl rfl rfl (op_loadA rfl tA48sl (Ent.lab (l := 11) rfl (says_cel 0)) (Nat.le_of_ble_eq_true rfl)) (wl_wanted_det rfl rfl rfl rfl rfl rfl rfl (op_loadA rfl tA48sl (Ent.lab (l := 15) rfl (says_cel 0)) (Nat.le_of_ble_eq_true rfl)) (wl_wanted_det rfl rfl rfl rfl rfl rfl rfl (op_fn Try.func27 rfl rfl rfl (same_self (Sl.lab 85 rfl (ofR_max _ _ _ _)) (Sl.lab 99 rfl (ofR_max _ _ _ _)))) (zd rfl (op_pick_t rfl rfl) (zm rfl (wl_wanted_det rfl rfl rfl rfl rfl rfl rfl (op_loadA rfl tA48sl (Ent.lab (l := 13) rfl (says_cel 0)) (Nat.le_of_ble_eq_true rfl)) (wl_wanted_det rfl rfl rfl rfl rfl rfl rfl (op_loadA rfl tA48sl (Ent.lab (l := 15) rfl (says_cel 0)) (Nat.le_of_ble_eq_true rfl)) (wl_wanted_det rfl rfl rfl rfl rfl rfl rfl (op_fn Try.func27 rfl rfl rfl (same_self (Sl.lab 92 rfl (ofR_max _ _ _ _)) (Sl.lab 99 rfl (ofR_max _ _ _ _)))) (zd rfl (op_pick_t rfl rfl) (za rfl (wl_nil (st_tn ?_)))))))))))))
        refine w_ret (st_ret (vs := [_]) [] Try.results8 ⟨rfl, trivial⟩ rfl ?_)
        refine ⟨_, rfl, ?_⟩
        exact ⟨rfl, rfl⟩
end Go.Proofs.Ytbgddblfalahfaa
