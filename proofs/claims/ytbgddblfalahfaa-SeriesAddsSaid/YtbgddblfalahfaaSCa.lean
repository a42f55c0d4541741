/- slices.Values, AppendSeq, Collect and Sorted at []int, turned from the kit's worked proofs, and told by owned slices. Contracts of Go's functions on lists of numbers: Clone, Sort, Sorted, IndexFunc, ContainsFunc, Equal. Contracts on fractions and quantiles (layers 2 and 43). Contracts on quantiles (layer 43). Contracts of series: like, Coarsen, Moving, Quantile (layer 43). The law's helper known, and the law SeriesQuantiles (layer 43). Arguments of the laws of layer 43, opened. Contracts of series.Untouched and the law SeriesUntouched (layer 43). Contracts of the law's helper Series, of series.Rates, and the law SeriesRates (layer 43). Contracts: names, Check, Same, Equal, Shift, and the law's check, same, coarsen, total (layer 43). Contracts: the law's coarsen and total, and the law SeriesChanges (layer 43). The law SeriesChanges (layer 43). The law SeriesChecks (layer 43). Contracts: Slots, At, Window, copied, one and the law's at (layer 43). Contracts: both, Join (layer 43). The law SeriesWindows (layer 43). Contracts: Sum, and the law's join and sum (layer 43). The law SeriesJoins (layer 43). The law SeriesSums (layer 43). Stories (layer 13): their data, Short, kind, TraceId, Offset. Conditions: none. -/
import Derived.Test.YtbgddblfalahfaaSlZ
import Derived.Test.YtbgddblfalahfaaProg
import Derived.Test.YtbgddblfalahfaaSl7
import Derived.Test.YtbgddblfalahfaaSlF
import Derived.RangeFuncBox
import Derived.RangeFuncLeaves
import Derived.Shelf.Abstract
import Derived.Shelf.AbstractIn
import Derived.WalkKit
import Derived.OwnWalkIn
import Derived.TacticsInMore
import Derived.LoopNIn
import Derived.LoopIn
import Derived.Maps.AppendAt
import Derived.Test.YtbgddblfalahfaaShelf
import Derived.Test.YtbgddblfalahfaaSlC
import Derived.Test.YtbgddblfalahfaaSl3
import Derived.Test.YtbgddblfalahfaaSlD
import Derived.Test.YtbgddblfalahfaaSlG
import Derived.Test.YtbgddblfalahfaaSlH
import Derived.Test.YtbgddblfalahfaaSlI
import Derived.Test.YtbgddblfalahfaaSlJ
import Derived.Test.YtbgddblfalahfaaSlK
import Derived.Test.YtbgddblfalahfaaSlP
namespace Go.Proofs.Ytbgddblfalahfaa
open Go Go.RowKit Go.Shelf
set_option linter.unusedVariables false
set_option linter.unusedSimpArgs false
attribute [local go_sem] Oper.semAt_some
def vupto (f : Nat → Int) (k : Nat) : List Int := (List.range k).map f
theorem vupto_succ (f : Nat → Int) (k : Nat) : vupto f (k + 1) = vupto f k ++ [f k] := by simp [vupto, List.range_succ]
theorem vupto_length (f : Nat → Int) (k : Nat) : (vupto f k).length = k := by simp [vupto]
theorem vupto_all (zs : List Int) : vupto (fun j => zs[j]?.getD 0) zs.length = zs := by
  apply List.ext_getElem
  · simp [vupto]
  · intro i h1 h2
    simp [vupto, h2]
set_option maxRecDepth 100000 in
set_option maxHeartbeats 2000000 in
theorem values1_in (F : Fence) (n : Nat) (h7 : F.fn 88) (hro : F.round = none) (hn : 1 ≤ n) (l Bs n₀ b off len cap : Nat) (zs : List Int) (hb : b < n₀) (hlen : len ≤ 9223372036854775807) (J Jx : List Int → World → Prop)
    (hY : ∀ pre x W, J pre W → pre.length < len → YieldAt F (n - 1) Try.prog l #[.int .i64 x] W fun e W' =>
      (e = .returned (.bool true) ∧ J (pre ++ [x]) W' ∧ Below n₀ W W') ∨ (e = .returned (.bool false) ∧ Jx (pre ++ [x]) W'))
    (W : World) (hBs : W.cell? ⟨Bs, 0, none⟩ = some (.slice (some ⟨b, off, none⟩) len cap)) (hc : ∀ j, j < len → W.cell? ⟨b, off + j, none⟩ = some (.int .i64 (zs[j]?.getD 0))) (h0 : J [] W) :
    CallsIn F n Try.prog 88 #[.func (.yield l) #[] #[], .pointer (some ⟨Bs, 0, none⟩)] W fun e W' => (∃ v, e = .returned v) ∧
      ((∃ ys, ys = vupto (fun j => zs[j]?.getD 0) len ∧ J ys W') ∨ (∃ pre, (∃ k, k ≤ len ∧ pre = vupto (fun j => zs[j]?.getD 0) k) ∧ Jx pre W')) := by
  refine callsIn_of_wp Try.func88 rfl h7 ?_ hro
  simp only [Try.ntmps88, List.size_toArray, List.length_cons, List.length_nil, Nat.reduceAdd, Nat.reduceSub, Array.replicate_succ, Array.replicate_zero, List.push_toArray, List.append_toArray, List.nil_append, List.cons_append]
  gi_wp2
  gi_loopw [7] (fun i wr => ∃ k : Nat, k ≤ len ∧ i = .int .i64 k ∧ J (vupto (fun j => zs[j]?.getD 0) k) wr ∧ Below n₀ W wr)
    (fun i _ => len - (intOf i).toNat)
  case atStart => exact ⟨0, Nat.zero_le _, rfl, h0, Below.refl _ _⟩
  case round =>
    obtain ⟨k, hk, rfl, hJs, hnx⟩ := hrel
    have hcx : k < len → wr.cell? ⟨b, off + k, none⟩ = some (.int .i64 (zs[k]?.getD 0)) := fun h => (hnx.cell (p := ⟨b, off + k, none⟩) hb).trans (hc k h)
    by_cases hlt : k < len
    · obtain ⟨fn, tmps, assign, body, hy, hR⟩ := hY _ (zs[k]?.getD 0) wr hJs (by rw [vupto_length]; exact hlt)
      have hcx' := hcx hlt
      gi_wp2
      refine hR.mono ?_
      rintro e W3 (⟨rfl, hJ3, hk3⟩ | ⟨rfl, hJx3⟩)
      · gi_wp2
        go_roundw
        case rel => exact ⟨k + 1, by omega, by simp, by rw [vupto_succ]; exact hJ3, hnx.trans hk3⟩
        case measure => simp [intOf]; omega
      · gi_wp2
        refine bodyPost_ret (results_none rfl _ _ _) rfl ?_
        exact ⟨⟨_, rfl⟩, .inr ⟨_, ⟨k + 1, by omega, (vupto_succ _ _).symm⟩, hJx3⟩⟩
    · obtain rfl : k = len := by omega
      gi_wp2
      go_end0
      exact ⟨⟨_, rfl⟩, .inl ⟨_, rfl, hJs⟩⟩
set_option maxRecDepth 100000 in
set_option maxHeartbeats 1000000 in
theorem values1_nil_in (F : Fence) (n : Nat) (h7 : F.fn 88) (hro : F.round = none) (l Bs cap : Nat) (a : Option Addr) (J : List Int → World → Prop) (W : World) (hBs : W.cell? ⟨Bs, 0, none⟩ = some (.slice a 0 cap)) (h0 : J [] W) :
    CallsIn F n Try.prog 88 #[.func (.yield l) #[] #[], .pointer (some ⟨Bs, 0, none⟩)] W fun e W' => (∃ v, e = .returned v) ∧ J [] W' := by
  refine callsIn_of_wp Try.func88 rfl h7 ?_ hro
  simp only [Try.ntmps88, List.size_toArray, List.length_cons, List.length_nil, Nat.reduceAdd, Nat.reduceSub, Array.replicate_succ, Array.replicate_zero, List.push_toArray, List.append_toArray, List.nil_append, List.cons_append]
  gi_wp2
  gi_loopw [7] (fun i wr => i = .int .i64 0 ∧ J [] wr) (fun _ _ => 0)
  case atStart => exact ⟨rfl, h0⟩
  case round =>
    obtain ⟨rfl, hJs⟩ := hrel
    gi_wp2
    go_end0
    exact ⟨⟨_, rfl⟩, hJs⟩
def IntsB (n₀ : Nat) (W : World) (sv : Value) (zs : List Int) : Prop :=
  (∃ a c, sv = .slice a 0 c ∧ zs = []) ∨ ∃ b off cap, sv = .slice (some ⟨b, off, none⟩) zs.length cap ∧ b < n₀ ∧ ∀ j, j < zs.length → W.cell? ⟨b, off + j, none⟩ = some (.int .i64 (zs[j]?.getD 0))
theorem IntsB.below {n₀ : Nat} {A B : World} (h : Below n₀ A B) {sv : Value} {zs : List Int} : IntsB n₀ A sv zs → IntsB n₀ B sv zs
  | .inl e => .inl e
  | .inr ⟨b, off, cap, e, hb, hc⟩ => .inr ⟨b, off, cap, e, hb, fun j hj => (h.cell (p := ⟨b, off + j, none⟩) hb).trans (hc j hj)⟩
theorem vupto_take (zs : List Int) {k : Nat} (hk : k ≤ zs.length) : vupto (fun j => zs[j]?.getD 0) k = zs.take k := by
  apply List.ext_getElem
  · simp [vupto, hk]
  · intro i h1 h2
    have : i < zs.length := by simp [vupto] at h1; omega
    simp [vupto, this]
theorem values_stops (F : Fence) (n : Nat) (h7 : F.fn 88) (hro : F.round = none) (hn : 1 ≤ n) (Bs n₀ : Nat) (sv : Value) (zs : List Int) (hlen : zs.length ≤ 9223372036854775807) (w : World) (hBs : Bs < w.heap.size) (hn₀ : n₀ ≤ w.heap.size)
    (hc : w.cell? ⟨Bs, 0, none⟩ = some sv) (hI : IntsB n₀ w sv zs) :
    SeqStopsK F n Try.prog 88 #[.pointer (some ⟨Bs, 0, none⟩)] (fun x : Int => #[Value.int .i64 x]) (Below n₀) (fun ys => ys = zs) (fun pre => pre <+: zs) zs.length w := fun l J Jx W hW _ _ hY h0 => by
  have hc' := (hW.cell (p := ⟨Bs, 0, none⟩) hBs).trans hc
  rcases hI.below (hW.mono hn₀) with ⟨a, c, rfl, rfl⟩ | ⟨b, off, cap, rfl, hb, hcs⟩
  · exact (values1_nil_in F n h7 hro l Bs c a J W hc' h0).mono fun e W' ⟨he, hj⟩ => ⟨he, .inl ⟨_, rfl, hj⟩⟩
  · refine (values1_in F n h7 hro hn l Bs n₀ b off zs.length cap zs hb hlen J Jx hY W hc' hcs h0).mono ?_
    rintro e W' ⟨he, ⟨ys, rfl, hj⟩ | ⟨pre, ⟨k, hk, rfl⟩, hj⟩⟩
    · exact ⟨he, .inl ⟨_, vupto_all zs, hj⟩⟩
    · exact ⟨he, .inr ⟨_, by rw [vupto_take zs hk]; exact List.take_prefix _ _, hj⟩⟩
theorem info3z : (Try.prog.info? 3).map (fun i => (i.zero, i.size, i.bytes)) = some (some (.int .i64 0), 1, 8) := by kernel_rfl
set_option maxRecDepth 100000 in
set_option maxHeartbeats 2000000 in
theorem appendSeq_in (F : Fence) (n : Nat) (h3 : F.fn 91) (h5 : F.fn 88) (hro : F.round = none) (hn : 3 ≤ n) (Bs : Nat) (sv : Value) (xs : List Int) (hlen : xs.length ≤ maxLen) (hbytes : xs.length * 8 ≤ 140737488355328) (w : World) (hBs : Bs < w.heap.size)
    (hcs : w.cell? ⟨Bs, 0, none⟩ = some sv) (hL : IntsB w.heap.size w sv xs) :
    CallsIn F n Try.prog 91 #[.slice none 0 0, .func (.func 88) #[] #[.pointer (some ⟨Bs, 0, none⟩)]] w fun e W' => ∃ v, e = .returned v ∧ W'.ownsRow w.heap.size 3 1 v xs.length (xs.map (Value.int .i64)) ∧ Below w.heap.size w W' := by
  have h1 : 1 ≤ n := by omega
  obtain ⟨i0, hi, hz0, hz1, hz2⟩ := info_parts info3z
  refine callsIn_of_wp_marks Try.func91 rfl h3 ?_ hro
  simp only [Try.ntmps91, List.size_toArray, List.length_cons, List.length_nil, Nat.reduceAdd, Nat.reduceSub, Array.replicate_succ, Array.replicate_zero, List.push_toArray, List.append_toArray, List.nil_append, List.cons_append]
  gi_wp2
  have bO := Boxed.new w 25 (.slice none 0 0)
  have hB0 : Below w.heap.size w (w.alloc (.cells #[.slice none 0 0] 25)) := (Below.refl _ w).alloc (Nat.le_refl _) _
  refine wpIn_rangeFunc_ownG hro h1 (gf := 88) (lb := #[.pointer (some ⟨Bs, 0, none⟩)]) rfl h5 (enters_of Try.func88 (by kernel_rfl) rfl)
    (values_stops F (n - 1) h5 hro (by omega) Bs w.heap.size sv xs (by unfold maxLen at hlen; omega) _ (by simp; omega) (by simp) ((hB0.cell (p := ⟨Bs, 0, none⟩) hBs).trans hcs) (hL.below hB0)) belowK_t (belowK_b (by simp)) (Below.refl _ _) (fun _ => rfl)
    (fun pre W => (∃ v, Boxed W w.heap.size 25 v ∧ W.ownsRow w.heap.size 3 1 v pre.length (pre.map (Value.int .i64)) ∧ (v = .slice none 0 0 ↔ pre = [])) ∧ Below w.heap.size w W)
    (fun _ _ _ => False)
    (OwnFrom.and (Own.from (holdsRow_own w.heap.size w.heap.size 25 3 1 (fun pre => pre.length) (fun pre => pre.map (Value.int .i64)) (fun pre v => v = .slice none 0 0 ↔ pre = [])) _) (ownFrom_below (Nat.le_refl _) (by simp)))
    (fun _ _ _ _ _ hs _ _ => hs)
    ⟨⟨_, bO, World.ownsRow_nil _ _ _ _, by simp⟩, hB0⟩
    (fun x => { tmps := #[.slice none 0 0, .func (.func 88) #[] #[.pointer (some ⟨Bs, 0, none⟩)], .pointer (some ⟨w.heap.size, 0, none⟩), undef, .slice none 0 0, .int .i64 x, .func (.func 88) #[] #[.pointer (some ⟨Bs, 0, none⟩)], .int .i64 x, undef, undef, undef, undef, undef], defers := [] }) ?assign ?body ?done ?stop
  case assign =>
    intro l x W K hK
    gi_wp2
    exact hK
  case body =>
    rintro l pre x W ⟨⟨v, hv, hrow, hnil⟩, hB⟩ hlt
    have hc := hv.cell
    gi_wp2_with (gi_at_builtin; refine wpListIn_append_own _ rfl _ _ 25 rfl w.heap.size 3 i0 (.int .i64 0) 1 8 Try.underlying25 hi hz0 hz1 hz2 rfl (by decide) _ _ _ rfl (hrow.alloc _) ⟨W.heap.size, 0, none⟩ 1 1 [.int .i64 x] rfl rfl (cell_one_new _ _ _) (by simp [Value.oneCell']) (by omega) (by omega) (by have := hB.size; simp; omega) ?_; intro v' w1 hown' hgrow _; obtain ⟨g', cap', rfl⟩ := ownsRow_succ hown'; obtain ⟨hv1, hv2, hr2, hk2, hb2⟩ := hv.appended (by decide) hrow hB.size (Nat.le_refl _) hown' hgrow; have hc1 := hv1.cell; have hf1 := hv1.frozen)
    exact ⟨hk2.from _, hb2, ⟨_, hv2, by simpa using hr2, by simp⟩, hB.trans hb2⟩
  case done =>
    rintro D ys W hD rfl ⟨⟨v, hv, hrow, hnil⟩, hB⟩ hK
    have hc := hv.cell
    gi_wp2
    refine ⟨by simp, .inl ⟨_, _, rfl, run_takeDeferred hK, ?_⟩⟩
    exact ⟨_, results_tmp rfl _ _ _, v, rfl, ownsRow_putObj hrow _ hK rfl, hB.trans (belowK_b (w := w) (Nat.le_refl _) W D _ _ (by simp at hD; omega) hK rfl rfl)⟩
  case stop =>
    rintro D c pre W _ _ h _
    exact h.elim
open Go.SL
theorem ints_of {w : World} {v : Value} {l : List Int} (h : slT encZ 1 v l w) (hlt : ∀ b o : Nat, ∀ u, w.cell? ⟨b, o, none⟩ = some u → b < w.heap.size) : IntsB w.heap.size w v l := by
  obtain ⟨_, _, h⟩ := h
  rcases h with ⟨a, c, rfl, hn⟩ | ⟨b, o, cap, rfl, hle, hr⟩
  · exact .inl ⟨a, c, rfl, by simpa using hn⟩
  · rw [List.length_map]
    have hc : ∀ j, j < l.length → w.cell? ⟨b, o + j, none⟩ = some (.int .i64 (l[j]?.getD 0)) := fun j hj => hr j _ (by
      rw [flat_one (enc0 := Value.int .i64) (enc := encZ) (fun _ => rfl), List.getElem?_map, List.getElem?_eq_getElem hj]; rfl)
    by_cases h0 : l = []
    · subst h0; exact .inl ⟨_, _, rfl, rfl⟩
    · have hpos : 0 < l.length := List.length_pos_iff.2 h0
      exact .inr ⟨b, o, cap, rfl, hlt b _ _ (hc 0 hpos), hc⟩
def NewZ (l : List Int) (lab : Nat) (u : Value) (ρ : RL) : Prop := ∃ a c, u = .slice a l.length c ∧ ρ = [(lab, slW 3 encZ 1 (.slice a l.length c) l)]
theorem appendSeq_any {σ : World} {F : List Res} {b : Nat} {v : Value} {l : List Int} (lab : Nat) (hb : Ent σ F (At ⟨b, 0, none⟩ [v])) (h : Sl σ F encZ 1 v l) (hl : l.length ≤ 1099511627776) :
    FnT Try.prog σ F 91 [.slice none 0 0, .func (.func 88) #[] #[.pointer (some ⟨b, 0, none⟩)]] [] (NewZ l lab) := by
  intro w ho
  have ho' : SL.Own σ F w := ho
  have hcell : w.cell? ⟨b, 0, none⟩ = some v := by
    obtain ⟨b', o', e, hr⟩ := hb w ho'
    cases e; exact hr 0 v rfl
  have hlt : ∀ b o : Nat, ∀ u, w.cell? ⟨b, o, none⟩ = some u → b < w.heap.size := fun b o u h => cell_lt h
  refine ((callsIn_wide (n := 3)).1 (appendSeq_in Fence.wide 3 trivial trivial rfl (Nat.le_refl _) b v l (by unfold maxLen; omega) (by omega) w (hlt b 0 v hcell) hcell (ints_of (h.ent w ho') hlt))).mono ?_
  rintro e W' ⟨u, rfl, hrow, hbel⟩
  have hrow' : W'.ownsRow w.heap.size 3 1 u l.length (l.map encZ).flatten := by rw [flat_one (enc0 := Value.int .i64) (enc := encZ) (fun _ => rfl)]; exact hrow
  obtain ⟨a, c, rfl, hown⟩ := own_row ho' hbel hrow' (fun _ => rfl) (by unfold maxLen; omega)
  exact ⟨_, _, rfl, ⟨a, c, rfl, rfl⟩, hown⟩
end Go.Proofs.Ytbgddblfalahfaa
namespace Go.Proofs.Ytbgddblfalahfaa
open Go Go.SL Go.RowKit
set_option linter.unusedVariables false
set_option linter.unusedSimpArgs false
theorem tO3a : oneB Try.prog 3 = true := by kernel_rfl
theorem tP25a : appB Try.prog 25 3 1 8 = true := by kernel_rfl
theorem tS25a : sliceB Try.prog 25 3 1 = true := by kernel_rfl
theorem take_snoc {α : Type} {l : List α} {i : Nat} {x : α} (h : l[i]? = some x) : l.take (i + 1) = l.take i ++ [x] := by rw [List.take_add_one, h]; rfl
theorem take_all {α : Type} {l : List α} {i : Nat} (h : ¬ i < l.length) : l.take i = l := List.take_of_length_le (by omega)
def srt (l : List Int) : List Int := l.mergeSort fun x y => decide (x ≤ y)
theorem length_srt (l : List Int) : (srt l).length = l.length := List.length_mergeSort l
theorem mem_srt {l : List Int} {x : Int} : x ∈ srt l ↔ x ∈ l := List.mem_mergeSort
theorem srt_perm (l : List Int) : (srt l).Perm l := List.mergeSort_perm l _
theorem srt_le (l : List Int) : (srt l).Pairwise (· ≤ ·) := by
  have := List.pairwise_mergeSort (le := fun x y : Int => decide (x ≤ y)) (fun a b c h1 h2 => by simp at *; omega) (fun a b => by simp; omega) l
  exact this.imp fun h => by simpa using h
theorem sort_any {σ : World} {F : List Res} {l : List Int} {a : Option Addr} {c : Nat} (lab : Nat) (hl : l.length < 4611686018427387904) :
    FnT Try.prog σ F 87 [.slice a l.length c] [(lab, slW 3 encZ 1 (.slice a l.length c) l)] (fun u ρ => u = .tuple #[] ∧ ρ = [(lab, slW 3 encZ 1 (.slice a l.length c) (srt l))]) :=
  fn_sort (enc0 := Value.int .i64) (enc := encZ) (fun _ => rfl) length_srt (fun g cap l w hH hg hl => Try.slices_Sort_int g 0 cap l w hH hg hl) (fun a cap w => Try.slices_Sort_int_none a cap w) lab hl
set_option maxHeartbeats 400000 in
set_option maxRecDepth 100000 in
theorem cloneI {σ : World} {F : List Res} {a : Option Addr} {c : Nat} {rl : List Int} (lab : Nat) (h : Sl σ F encZ 1 (.slice a rl.length c) rl) (hl : rl.length ≤ 1099511627776) :
    FnT Try.prog σ F 56 [.slice a rl.length c] [] (NewZ rl lab) := by
  refine fn_of 8 Try.func56 rfl Try.ntmps56 rfl ?_
  have hle := h.i64
  refine w_seq (w_region (za rfl (wl_nil (st_tn (w_seq (w_seq (w_region (zm rfl (zd rfl (op_eqNil rfl tS25a) (wl_nil (st_tn (w_cond rfl (fun hc4 => ?_) (fun hc4 => ?_)))))))))))))
  · -- c4.t
    obtain rfl : a = none := by simpa using hc4
    refine w_fact (Ent.app (Sl.nil_of h) _) (fun hnil => ?_)
    subst hnil
    refine w_emp 7 (slO_nil 3 1) ?_
    refine w_seq (w_region (za rfl (wl_nil (st_tn (w_ret (st_tr (st_ret (vs := [_]) [7] Try.results56 ⟨rfl, trivial⟩ rfl ?_)))))))
    refine ⟨[(lab, _)], rfl, ?_⟩
    exact ⟨none, 0, rfl, rfl⟩
  · -- c4.f
    refine w_skip (st_tn (w_seq (w_region (wl_op [] rfl rfl rfl rfl (op_lit0 (enc := SL.encZ) (lab := 5) tS25a) ?_))))
    rintro _ _ ⟨a5, c5, rfl, rfl⟩
    refine zm rfl (wl_op [5] rfl rfl rfl rfl (op_append (lab := 5) (lab' := 7) rfl rfl tP25a SL.enc1Z (by first | exact Sl.app (by assumption) _ | exact Sl.app (Sl.app (by assumption) _) _) (by first | omega | (simp; done) | (simp; omega) | (simp [*]; omega)) (by first | omega | (simp; done) | (simp; omega) | (simp [*]; omega))) ?_)
    rintro _ _ ⟨a7, c7, rfl, rfl⟩
    refine za rfl (wl_nil (st_tn (w_ret (st_ret (vs := [_]) [7] Try.results56 ⟨rfl, trivial⟩ rfl ?_))))
    refine ⟨[(lab, _)], rfl, ?_⟩
    exact ⟨a7, c7, rfl, rfl⟩
set_option maxHeartbeats 400000 in
set_option maxRecDepth 100000 in
theorem collect_any {σ : World} {F : List Res} {b : Nat} {v : Value} {l : List Int} (lab : Nat) (hb : Ent σ F (At ⟨b, 0, none⟩ [v])) (h : Sl σ F encZ 1 v l) (hl : l.length ≤ 1099511627776) :
    FnT Try.prog σ F 86 [.func (.func 88) #[] #[.pointer (some ⟨b, 0, none⟩)]] [] (NewZ l lab) := by
  refine fn_of 5 Try.func86 rfl Try.ntmps86 rfl ?_
  refine w_seq (w_region (za rfl (wl_nil (st_tn (w_seq (w_region (zm rfl (wl_op [] rfl rfl rfl rfl (op_fn Try.func91 rfl rfl rfl (appendSeq_any 4 (Ent.app hb _) (Sl.app h _) hl)) ?_))))))))
  rintro _ _ ⟨a4, c4, rfl, rfl⟩
  refine za rfl (wl_nil (st_tn (w_ret (st_ret (vs := [_]) [4] Try.results86 ⟨rfl, trivial⟩ rfl ?_))))
  refine ⟨[(lab, _)], rfl, ?_⟩
  exact ⟨a4, c4, rfl, rfl⟩
set_option maxHeartbeats 400000 in
set_option maxRecDepth 100000 in
theorem sorted_any {σ : World} {F : List Res} {b : Nat} {v : Value} {l : List Int} (lab : Nat) (hb : Ent σ F (At ⟨b, 0, none⟩ [v])) (h : Sl σ F encZ 1 v l) (hl : l.length ≤ 1099511627776) :
    FnT Try.prog σ F 74 [.func (.func 88) #[] #[.pointer (some ⟨b, 0, none⟩)]] [] (NewZ (srt l) lab) := by
  refine fn_of 9 Try.func74 rfl Try.ntmps74 rfl ?_
  refine w_seq (w_region (za rfl (wl_nil (st_tn (w_seq (w_region (zm rfl (wl_op [] rfl rfl rfl rfl (op_fn Try.func86 rfl rfl rfl (collect_any 5 (Ent.app hb _) (Sl.app h _) hl)) ?_))))))))
  rintro _ _ ⟨a5, c5, rfl, rfl⟩
  refine za rfl (wl_nil (st_tn (w_seq (w_region (zm rfl (wl_op [5] rfl rfl rfl rfl (op_fn Try.func87 rfl rfl rfl (sort_any 5 (by omega))) ?_))))))
  rintro _ _ ⟨rfl, rfl⟩
  refine wl_nil (st_tn (w_seq (w_region (zm rfl (za rfl (wl_nil (st_tn (w_ret (st_ret (vs := [_]) [5] Try.results74 ⟨rfl, trivial⟩ rfl ?_)))))))))
  refine ⟨[(lab, _)], rfl, ?_⟩
  exact ⟨a5, c5, by rw [length_srt]; rfl, by rw [length_srt]⟩
set_option maxHeartbeats 400000 in
set_option maxRecDepth 100000 in
theorem values_any {σ : World} {F : List Res} {v : Value} (lab : Nat) :
    FnT Try.prog σ F 75 [v] [] (fun u ρ => ∃ b, u = .func (.func 88) #[] #[.pointer (some ⟨b, 0, none⟩)] ∧ ρ = [(lab, cel b v.cells.toList 25)]) := by
  refine fn_of 4 Try.func75 rfl Try.ntmps75 rfl ?_
  refine w_seq (w_region (wl_op [] rfl rfl rfl rfl (op_box (T := 25) (l := 1) rfl) ?_))
  rintro _ _ ⟨b1, rfl, rfl⟩
  refine za rfl (wl_nil (st_tn (w_seq (w_region (zd rfl (op_makeFunc rfl rfl) (za rfl (wl_nil (st_tn (w_ret (st_ret (vs := [_]) [1] Try.results75 ⟨rfl, trivial⟩ rfl ?_))))))))))
  refine ⟨[(lab, _)], rfl, ?_⟩
  exact ⟨b1, rfl, rfl⟩
set_option maxHeartbeats 400000 in
set_option maxRecDepth 100000 in
theorem indexFuncI {σ : World} {F : List Res} {a : Option Addr} {c : Nat} {rl : List Int} {g : Nat} {gn : Func} {fs cs : List Value} {p : Int → Bool} (h : Sl σ F encZ 1 (.slice a rl.length c) rl)
    (hg : Try.prog.funcs[g]? = some gn) (hgb : gn.body.isSome = true) (hgn : (gn.name == "runtime.NumGoroutine") = false) (hp : ∀ (X : List Res) (r : Int), FnT Try.prog σ (X ++ F) g (fs ++ [.int .i64 r] ++ cs) [] (fun u ρ => u = .bool (p r) ∧ ρ = [])) :
    FnT Try.prog σ F 80 [.slice a rl.length c, .func (.func g) fs.toArray cs.toArray] [] (fun u ρ => u = .int .i64 (match rl.findIdx? p with | some i => (i : Int) | none => -1) ∧ ρ = []) := by
  refine fn_of 19 Try.func80 rfl Try.ntmps80 rfl ?_
  have hle := h.i64
  refine w_seq (w_region (za rfl (wl_nil (st_tn (w_seq (w_seq (w_region (zm rfl (zd rfl (op_lenT rfl tS25a (Sl.ent (by first | exact Sl.app (by assumption) _ | exact Sl.app (Sl.app (by assumption) _) _))) ?_)))))))))
  refine zm rfl (wl_nil (st_tn (w_block ?_)))
  refine w_loopQ (X := Nat) (fun z => z ≤ rl.length ∧ ∀ r ∈ rl.take z, p r = false) (fun z => [(8, .int .i64 (z))]) (fun _ => []) (fun z => rl.length - z) (0) [(0, _), (1, _), (7, _)] [] [] rfl (rfl) (.cons rfl (.nil _)) (.cons rfl (.cons rfl (.cons rfl (.nil _)))) (by
      try dsimp only
      exact ⟨Nat.zero_le _, by simp⟩) ?_
  rintro i ⟨hi, hn⟩
  refine w_norm2 (by dsimp only [List.cons_append, List.nil_append]) (by dsimp only [List.cons_append, List.nil_append]) ?_
  try dsimp only at hi hn ⊢
  refine w_seq (w_region (zd rfl (op_lss rfl rfl) (wl_nil (st_tn (w_seq (w_cond_d rfl (fun hc9 => ?_) (fun hc9 => ?_)))))))
  · -- c9.t
    obtain ⟨r, hr⟩ := getE (l := rl) (i := i) (by omega)
    have hlt := ltE hr
    refine w_skip (st_tn (w_seq (w_block (w_seq (w_region (zm rfl (za rfl (wl_nil (st_tn (w_seq (w_region (zm rfl (zm rfl ?_)))))))))))))
    refine zm rfl (zd rfl (op_idx rfl rfl tS25a (Sl.ent (by first | exact Sl.app (by assumption) _ | exact Sl.app (Sl.app (by assumption) _) _)) (by omega)) ?_)
    refine zd rfl (op_ldx rfl tO3a (by first | exact Sl.app (by assumption) _ | exact Sl.app (Sl.app (by assumption) _) _) (by assumption) (by rfl)) ?_
    refine zd rfl (op_fnv hg hgb hgn rfl rfl (hp _ r)) (wl_nil (st_tn (w_cond rfl (fun hc16 => ?_) (fun hc16 => ?_))))
    · -- c16.t
      refine w_seq (w_region (zm rfl (za rfl (wl_nil (st_tn (w_ret (st_br (st_tr (st_tr (st_br (st_tr (st_ret (vs := [_]) [] Try.results80 ⟨rfl, trivial⟩ rfl ?_))))))))))))
      refine ⟨_, rfl, ?_⟩
      refine ⟨?_, rfl⟩
      have : rl.findIdx? p = some i := by
        rw [List.findIdx?_eq_some_iff_getElem]
        obtain ⟨hlt', hge⟩ := List.getElem?_eq_some_iff.1 hr
        refine ⟨hlt', by rw [hge]; exact hc16, fun j hj => ?_⟩
        rw [hn _ (List.mem_take_iff_getElem.2 ⟨j, by omega, rfl⟩)]; simp
      rw [this]; rfl
    · -- c16.f
      refine w_skip (st_bn (st_tn (w_region (zd rfl (op_add' rfl rfl (by omega)) ?_))))
      refine zm rfl (wl_nil ?_)
      refine st_roundQ (x := i) (i + 1) [] rfl (rfl) (.cons rfl (.nil _)) (.cons rfl (.cons rfl (.cons rfl (.nil _)))) (by
          try dsimp only
          refine ⟨by omega, by rw [take_snoc hr]; intro q hq; rcases List.mem_append.1 hq with hq | hq; (· exact hn q hq); (· simp at hq; subst hq; exact hc16)⟩) (by
          try dsimp only
          omega)
  · -- c9.f
    refine w_exit (st_te ?_)
    refine st_te ?_
    refine st_be (st_tn (w_seq (w_region (za rfl (wl_nil (st_tn (w_ret (st_ret (vs := [_]) [] Try.results80 ⟨rfl, trivial⟩ rfl ?_))))))))
    refine ⟨_, rfl, ?_⟩
    refine ⟨?_, rfl⟩; rw [take_all (by omega)] at hn
    have : rl.findIdx? p = none := by rw [List.findIdx?_eq_none_iff]; exact hn
    rw [this]; rfl
set_option maxHeartbeats 400000 in
set_option maxRecDepth 100000 in
theorem containsFuncI {σ : World} {F : List Res} {a : Option Addr} {c : Nat} {rl : List Int} {g : Nat} {gn : Func} {fs cs : List Value} {p : Int → Bool} (h : Sl σ F encZ 1 (.slice a rl.length c) rl)
    (hg : Try.prog.funcs[g]? = some gn) (hgb : gn.body.isSome = true) (hgn : (gn.name == "runtime.NumGoroutine") = false) (hp : ∀ (X : List Res) (r : Int), FnT Try.prog σ (X ++ F) g (fs ++ [.int .i64 r] ++ cs) [] (fun u ρ => u = .bool (p r) ∧ ρ = [])) :
    FnT Try.prog σ F 57 [.slice a rl.length c, .func (.func g) fs.toArray cs.toArray] [] (fun u ρ => u = .bool (rl.any p) ∧ ρ = []) := by
  refine fn_of 9 Try.func57 rfl Try.ntmps57 rfl ?_
  refine w_seq (w_region (za rfl (wl_nil (st_tn (w_seq (w_region (zm rfl (zm rfl (zd rfl (op_fn Try.func80 rfl rfl rfl (indexFuncI (Sl.app h _) hg hgb hgn (fun X r => by simpa using hp (X ++ rs []) r))) ?_)))))))))
  refine zd rfl (op_geq rfl rfl) (za rfl (wl_nil (st_tn (w_ret (st_ret (vs := [_]) [] Try.results57 ⟨rfl, trivial⟩ rfl ?_)))))
  refine ⟨_, rfl, ?_⟩
  refine ⟨?_, rfl⟩
  cases hf : rl.findIdx? p with
  | none => rw [List.findIdx?_eq_none_iff] at hf; simp [retv]; intro x hx; exact hf x hx
  | some i => obtain ⟨hlt, h1, _⟩ := List.findIdx?_eq_some_iff_getElem.1 hf; simp [retv]; exact ⟨_, List.getElem_mem hlt, h1⟩
end Go.Proofs.Ytbgddblfalahfaa
namespace Go.Proofs.Ytbgddblfalahfaa
open Go Go.SL Go.RowKit
set_option linter.unusedVariables false
set_option linter.unusedSimpArgs false
theorem tA24b : aggB Try.prog 24 2 = true := by kernel_rfl
theorem tB24b : placesB Try.prog 24 = some ([(0, 1), (1, 1)], [Value.int .i64 0, Value.int .i64 0]) := by kernel_rfl
theorem tF24_0b : fieldB Try.prog 24 0 0 = true := by kernel_rfl
theorem tMixb : Try.prog.follows .mixedOrders = true := by kernel_rfl
theorem tN24b : (Try.prog.info? 24).bind (·.zero) = some (Value.agg #[Value.int .i64 0, Value.int .i64 0]) := by kernel_rfl
theorem tO3b : oneB Try.prog 3 = true := by kernel_rfl
theorem tZ24b : (Try.prog.info? 24).map (·.size) = some 2 := by kernel_rfl
theorem tZ3b : (Try.prog.info? 3).map (·.size) = some 1 := by kernel_rfl
def encY (x : Int) : List Value := [.int .u8 x]
theorem eq24 (a b c d : Int) (w : World) : (Op.equal 24 (.agg #[.int .i64 a, .int .i64 b]) (.agg #[.int .i64 c, .int .i64 d])).run Try.prog w = .ok (decide ((a, b) = (c, d))) w := by
  have hs : Try.prog.stoodInHeld 24 = false := by kernel_rfl
  have hf : Try.prog.fieldsOf 24 = #[{ name := "Num", type := 3, offset := 0, embedded := false, tag := "", pkgPath := "", byteOffset := 0 }, { name := "Den", type := 3, offset := 1, embedded := false, tag := "", pkgPath := "", byteOffset := 8 }] := by kernel_rfl
  have ha : ∀ w, (isAgg 3).run Try.prog w = .ok false w := fun w => by unfold isAgg; rw [Sem.run_bind, run_underlying Try.underlying3 w]; rfl
  show (Op.equalIn (9999 + 1) 24 _ _).run Try.prog w = _
  rw [run_equalIn_agg w 9999 24 _ _ (by kernel_rfl) hs, hf]
  simp only [Op.eqFields, List.toList_toArray]
  simp [part, Sem.run_bind, ha, run_equalIn_int w 9998 3 .i64 .i64 _ _ Try.underlying3, Op.eqFields]
  by_cases h1 : a = c <;> by_cases h2 : b = d <;> simp [h1, h2, part, Sem.run_bind, ha, run_equalIn_int w 9998 3 .i64 .i64 _ _ Try.underlying3, Op.eqFields]
set_option maxHeartbeats 400000 in
set_option maxRecDepth 100000 in
theorem gcd_any {σ : World} {F : List Res} (a b : Nat) (ha : a ≤ 18446744073709551615) (hb : b ≤ 18446744073709551615) :
    FnT Try.prog σ F 79 [.int .u64 a, .int .u64 b] [] (fun u ρ => u = .int .u64 (Nat.gcd a b : Nat) ∧ ρ = []) := by
  refine fn_of 12 Try.func79 rfl Try.ntmps79 rfl ?_
  refine w_seq (w_region (za rfl (wl_nil (st_tn (w_seq (w_block ?_))))))
  refine w_loopQ (X := Nat × Nat) (fun z => (z.1 ≤ 18446744073709551615 ∧ z.2 ≤ 18446744073709551615) ∧ Nat.gcd z.1 z.2 = Nat.gcd a b) (fun z => [(0, .int .u64 (z.1)), (1, .int .u64 (z.2))]) (fun _ => []) (fun z => z.2) ((a, b)) [] [] [] rfl (rfl) (.cons rfl (.cons rfl (.nil _))) (.nil _) (by
      try dsimp only
      exact ⟨⟨ha, hb⟩, rfl⟩) ?_
  rintro ⟨x, y⟩ ⟨⟨hx, hy⟩, hg⟩
  refine w_norm2 (by dsimp only [List.cons_append, List.nil_append]) (by dsimp only [List.cons_append, List.nil_append]) ?_
  try dsimp only at hx hy hg ⊢
  refine w_seq (w_seq (w_region (zm rfl (zd rfl (op_neq rfl rfl) (wl_nil (st_tn (w_cond_d rfl (fun hc6 => ?_) (fun hc6 => ?_))))))))
  · -- c6.t
    refine w_skip (st_tn (w_block ?_))
    refine w_draw (D := [⟨7, [], [], [], _, false, [], []⟩, ⟨8, [], [], [], _, false, [], [0]⟩, ⟨9, [], [], [], _, false, [], []⟩, ⟨10, [1, 2], [], [], _, false, [], []⟩, ⟨0, [0], [], [], _, false, [], []⟩]) [] [1] [⟨7, [], [], false, [], []⟩, ⟨8, [], [], false, [], [0]⟩, ⟨9, [], [], false, [], []⟩, ⟨10, [1, 2], [], false, [], []⟩, ⟨0, [0], [], false, [], []⟩] tMixb (by rfl) (by kernel_rfl) (by rfl) (by rfl)
        ⟨.plain rfl (by intro X; exact op_move rfl),
        ⟨.plain rfl (by intro X; exact op_move rfl),
        ⟨.plain rfl (by intro X; exact op_move rfl),
        ⟨.plain rfl (by intro X; rintro _ _ ⟨rfl, rfl⟩ _ _ ⟨rfl, rfl⟩; exact op_remN rfl rfl (by omega) (by omega)),
        ⟨.plain rfl (by intro X; rintro _ _ ⟨rfl, rfl⟩; exact op_assign rfl),
        trivial⟩⟩⟩⟩⟩ ?_
    rintro _ _ ⟨rfl, rfl⟩ _ _ ⟨rfl, rfl⟩ _ _ ⟨rfl, rfl⟩ _ _ ⟨rfl, rfl⟩ _ _ ⟨rfl, rfl⟩
    refine wl_norm (e' := [(0, _), (10, _)]) (.cons rfl (.cons rfl (.nil _))) (by dsimp only [cond_false, cond_true, List.nil_append, List.cons_append]) ?_
    refine za rfl (wl_nil (st_bn ?_))
    refine st_roundQ (x := (x, y)) ((y, x % y)) [] rfl (rfl) (.cons rfl (.cons rfl (.nil _))) (.nil _) (by
        try dsimp only
        exact ⟨⟨hy, by have := Nat.mod_lt x (show 0 < y by omega); omega⟩, by rw [← hg, Nat.gcd_comm x y, Nat.gcd_rec y x, Nat.gcd_comm]⟩) (by
        try dsimp only
        exact Nat.mod_lt x (by omega))
  · -- c6.f
    refine w_exit (st_te ?_)
    refine st_te ?_
    refine st_be (st_tn (w_seq (w_region (zm rfl (za rfl (wl_nil (st_tn (w_ret (st_ret (vs := [_]) [] Try.results79 ⟨rfl, trivial⟩ rfl ?_)))))))))
    refine ⟨_, rfl, ?_⟩
    refine ⟨?_, rfl⟩; have h0 : y = 0 := by omega
    subst h0; rw [← hg, Nat.gcd_zero_right]; rfl
set_option maxHeartbeats 400000 in
set_option maxRecDepth 100000 in
theorem mag_any {σ : World} {F : List Res} (x : Int) (hx : -9223372036854775808 ≤ x ∧ x ≤ 9223372036854775807) :
    FnT Try.prog σ F 78 [.int .i64 x] [] (fun u ρ => u = .int .u64 (x.natAbs : Nat) ∧ ρ = []) := by
  refine fn_of 10 Try.func78 rfl Try.ntmps78 rfl ?_
  refine w_seq (w_region (za rfl (wl_nil (st_tn (w_seq (w_seq (w_region (zm rfl (zd rfl (op_lss rfl rfl) (wl_nil (st_tn (w_cond_d rfl (fun hc4 => ?_) (fun hc4 => ?_)))))))))))))
  · -- c4.t
    refine w_seq (w_region (zm rfl (zd rfl (op_val (v' := .int .u64 (x + 18446744073709551616)) (by rw [wrap_u64_neg (by omega)]) (op_conv rfl (by rw [Try.underlying3]; rfl) Try.underlying124)) ?_)))
    refine zd rfl (op_val (v' := .int .u64 (-x)) (by rw [show (0 : Int) - (x + 18446744073709551616) = -x - 18446744073709551616 by omega]; simp [IntKind.wrap, IntKind.bits, IntKind.signed]; omega) (op_negK rfl)) ?_
    refine za rfl (wl_nil (st_tn (w_ret (st_tr (st_ret (vs := [_]) [] Try.results78 ⟨rfl, trivial⟩ rfl ?_)))))
    refine ⟨_, rfl, ?_⟩
    refine ⟨?_, rfl⟩; show Value.int .u64 (-x) = _; congr 1; omega
  · -- c4.f
    refine w_skip (st_tn (w_seq (w_region (zm rfl (zd rfl (op_convU64 rfl (by rw [Try.underlying3]; rfl) Try.underlying124 (by omega)) ?_)))))
    refine za rfl (wl_nil (st_tn (w_ret (st_ret (vs := [_]) [] Try.results78 ⟨rfl, trivial⟩ rfl ?_))))
    refine ⟨_, rfl, ?_⟩
    refine ⟨?_, rfl⟩; show Value.int .u64 x = _; congr 1; omega
def mkF (num den : Int) : Int × Int × Int :=
  if den = 0 then (0, 0, 19) else
  if num.natAbs / Nat.gcd num.natAbs den.natAbs > 1048576 ∨ den.natAbs / Nat.gcd num.natAbs den.natAbs > 1048576 then (0, 0, 20) else
  ((if (decide (num < 0)) != (decide (den < 0)) then -((num.natAbs / Nat.gcd num.natAbs den.natAbs : Nat) : Int) else ((num.natAbs / Nat.gcd num.natAbs den.natAbs : Nat) : Int)), ((den.natAbs / Nat.gcd num.natAbs den.natAbs : Nat) : Int), 0)
theorem mkF_ok {num den : Int} (h : mkF num den = (num, den, 0)) : den ≠ 0 ∧ -1048576 ≤ num ∧ num ≤ 1048576 ∧ 0 ≤ den ∧ den ≤ 1048576 := by
  unfold mkF at h
  split at h
  · simp at h
  · rename_i h0
    split at h
    · simp at h
    · rename_i h1
      simp only [Prod.mk.injEq] at h
      obtain ⟨e1, e2, _⟩ := h
      refine ⟨h0, ?_⟩
      generalize num.natAbs / Nat.gcd num.natAbs den.natAbs = p at *
      generalize den.natAbs / Nat.gcd num.natAbs den.natAbs = q at *
      split at e1 <;> omega
set_option maxHeartbeats 1000000 in
set_option maxRecDepth 100000 in
theorem mk_any {σ : World} {F : List Res} (x y : Int) (hx : -9223372036854775808 ≤ x ∧ x ≤ 9223372036854775807) (hy : -9223372036854775808 ≤ y ∧ y ≤ 9223372036854775807) :
    FnT Try.prog σ F 54 [.int .i64 x, .int .i64 y] [] (fun u ρ => u = .tuple #[.agg #[.int .i64 (mkF x y).1, .int .i64 (mkF x y).2.1], .int .i64 (mkF x y).2.2] ∧ ρ = []) := by
  refine fn_of 48 Try.func54 rfl Try.ntmps54 rfl ?_
  have hax : x.natAbs ≤ 9223372036854775808 := by omega
  have hay : y.natAbs ≤ 9223372036854775808 := by omega
  refine w_seq (w_region (wl_op [] rfl rfl rfl rfl (op_alloc (l := 4) tN24b) ?_))
  rintro _ _ ⟨b4, rfl, rfl⟩
  refine za rfl (wl_nil (st_tn (w_seq (w_seq (w_region (zm rfl (zd rfl (op_eql rfl rfl) (wl_nil (st_tn (w_cond_d rfl (fun hc11 => ?_) (fun hc11 => ?_)))))))))))
  · -- c11.t
    refine w_seq (w_region (zd rfl (op_build tB24b rfl rfl) (wl_op0 [4] rfl rfl rfl (op_store rfl rfl tZ24b (by rfl) (by rfl) (by exact Nat.le_of_ble_eq_true rfl)) ?_)))
    rintro _ _ ⟨rfl, rfl⟩
    refine za rfl (wl_nil (st_tn (w_ret (st_tr (st_ret (vs := [_, _]) [] Try.results54 ⟨⟨_, rfl, Ent.mono (Ent.lab (l := 4) rfl (says_cel 0)) (fun _ h => run_load_agg tA24b h (Nat.le_of_ble_eq_true rfl))⟩, ⟨rfl, trivial⟩⟩ rfl ?_)))))
    refine ⟨_, rfl, ?_⟩
    rw [show mkF x y = (0, 0, 19) by unfold mkF; rw [if_pos hc11]]; exact ⟨rfl, rfl⟩
  · -- c11.f
    have hgp : 0 < Nat.gcd x.natAbs y.natAbs := Nat.gcd_pos_of_pos_right _ (by omega)
    have hqx : ((x.natAbs : Int) / (Nat.gcd x.natAbs y.natAbs : Nat)) = ((x.natAbs / Nat.gcd x.natAbs y.natAbs : Nat) : Int) := by rw [Int.natCast_ediv]
    have hqy : ((y.natAbs : Int) / (Nat.gcd x.natAbs y.natAbs : Nat)) = ((y.natAbs / Nat.gcd x.natAbs y.natAbs : Nat) : Int) := by rw [Int.natCast_ediv]
    refine w_skip (st_tn (w_seq (w_region (zm rfl (zd rfl (op_fn Try.func78 rfl rfl rfl (mag_any _ (by omega))) ?_)))))
    refine zm rfl (zd rfl (op_fn Try.func78 rfl rfl rfl (mag_any _ (by omega))) ?_)
    refine za rfl (za rfl (wl_nil (st_tn (w_seq (w_region (zm rfl (zm rfl (zd rfl (op_fn Try.func79 rfl rfl rfl (gcd_any _ _ (by omega) (by omega))) ?_))))))))
    refine za rfl (wl_nil (st_tn (w_seq ?_)))
    refine w_draw (D := [⟨20, [], [], [], _, false, [], [6]⟩, ⟨21, [], [], [], _, false, [], []⟩, ⟨22, [0, 1], [], [], _, false, [], []⟩, ⟨23, [], [], [], _, false, [], []⟩, ⟨24, [], [], [], _, false, [], []⟩, ⟨25, [3, 4], [], [], _, false, [], []⟩, ⟨6, [2], [], [], _, false, [], []⟩]) [] [8, 7] [⟨20, [], [], false, [], [6]⟩, ⟨21, [], [], false, [], []⟩, ⟨22, [0, 1], [], false, [], []⟩, ⟨23, [], [], false, [], []⟩, ⟨24, [], [], false, [], []⟩, ⟨25, [3, 4], [], false, [], []⟩, ⟨6, [2], [], false, [], []⟩] tMixb (by rfl) (by kernel_rfl) (by rfl) (by rfl)
        ⟨.plain rfl (by intro X; exact op_move rfl),
        ⟨.plain rfl (by intro X; exact op_move rfl),
        ⟨.plain rfl (by intro X; rintro _ _ ⟨rfl, rfl⟩ _ _ ⟨rfl, rfl⟩; exact op_val (v' := .int .u64 ((x.natAbs / Nat.gcd x.natAbs y.natAbs : Nat) : Int)) (by rw [hqx]) (op_quoU rfl rfl (by omega) (by omega) (by omega))),
        ⟨.plain rfl (by intro X; exact op_move rfl),
        ⟨.plain rfl (by intro X; exact op_move rfl),
        ⟨.plain rfl (by intro X; rintro _ _ ⟨rfl, rfl⟩ _ _ ⟨rfl, rfl⟩; exact op_val (v' := .int .u64 ((y.natAbs / Nat.gcd x.natAbs y.natAbs : Nat) : Int)) (by rw [hqy]) (op_quoU rfl rfl (by omega) (by omega) (by omega))),
        ⟨.plain rfl (by intro X; rintro _ _ ⟨rfl, rfl⟩; exact op_assign rfl),
        trivial⟩⟩⟩⟩⟩⟩⟩ ?_
    rintro _ _ ⟨rfl, rfl⟩ _ _ ⟨rfl, rfl⟩ _ _ ⟨rfl, rfl⟩ _ _ ⟨rfl, rfl⟩ _ _ ⟨rfl, rfl⟩ _ _ ⟨rfl, rfl⟩ _ _ ⟨rfl, rfl⟩
    refine wl_norm (e' := [(0, _), (1, _), (4, _), (6, _), (25, _)]) (.cons rfl (.cons rfl (.cons rfl (.cons rfl (.cons rfl (.nil _)))))) (by dsimp only [cond_false, cond_true, List.nil_append, List.cons_append]) ?_
    refine za rfl (wl_nil (st_tn (w_seq (w_seq ?_))))
    generalize hp : x.natAbs / Nat.gcd x.natAbs y.natAbs = p
    generalize hq : y.natAbs / Nat.gcd x.natAbs y.natAbs = q
    refine w_cutL [(31, .bool (decide (p > 1048576 ∨ q > 1048576)))] [0, 1, 4, 6, 7] [4] rfl (fun K' hK => ?_) ?_
    · -- cut r6
      refine w_region (zm rfl (zd rfl (op_gtr rfl rfl) (zm rfl (wl_gsplit (t := 28) rfl (fun hg28 => ?_) (fun hg28 => ?_)))))
      · -- 28 is True
        refine wl_unwanted rfl rfl rfl rfl rfl rfl rfl rfl (wl_unwanted rfl rfl rfl rfl rfl rfl rfl rfl (zd rfl (op_pick_t rfl rfl) (wl_nil (st_tn ?_))))
        exact cut_done1 [4] hK rfl (by first | (rw [decide_eq_decide]; omega) | (symm; rw [decide_eq_false_iff_not]; omega) | (symm; rw [decide_eq_true_iff]; omega) | (simp; done) | (simp; omega) | (simp [*]; done) | (simp [*]; omega)) (by rfl) rfl rfl
      · -- 28 is False
        refine wl_wanted_det rfl rfl rfl rfl rfl rfl rfl (op_move rfl) (wl_wanted_det rfl rfl rfl rfl rfl rfl rfl (op_gtr rfl rfl) (zd rfl (op_pick_f rfl rfl) (wl_nil (st_tn ?_))))
        exact cut_done1 [4] hK rfl (by first | (rw [decide_eq_decide]; omega) | (symm; rw [decide_eq_false_iff_not]; omega) | (symm; rw [decide_eq_true_iff]; omega) | (simp; done) | (simp; omega) | (simp [*]; done) | (simp [*]; omega)) (by rfl) rfl rfl
    · -- behind r6
      show W _ _ _ _ _ [(31, _), (0, _), (1, _), (4, _), (6, _), (7, _)] [(4, _)] _
      refine w_cond_d rfl (fun hc31 => ?_) (fun hc31 => ?_)
      · -- c31.t
        refine w_seq (w_region (zd rfl (op_build tB24b rfl rfl) (wl_op0 [4] rfl rfl rfl (op_store rfl rfl tZ24b (by rfl) (by rfl) (by exact Nat.le_of_ble_eq_true rfl)) ?_)))
        rintro _ _ ⟨rfl, rfl⟩
        refine za rfl (wl_nil (st_tn (w_ret (st_tr (st_ret (vs := [_, _]) [] Try.results54 ⟨⟨_, rfl, Ent.mono (Ent.lab (l := 4) rfl (says_cel 0)) (fun _ h => run_load_agg tA24b h (Nat.le_of_ble_eq_true rfl))⟩, ⟨rfl, trivial⟩⟩ rfl ?_)))))
        refine ⟨_, rfl, ?_⟩
        rw [show mkF x y = (0, 0, 20) by unfold mkF; rw [if_neg hc11, hp, hq, if_pos hc31]]; exact ⟨rfl, rfl⟩
      · -- c31.f
        refine w_skip (st_tn (w_seq (w_region (zm rfl (zd rfl (op_convI64 rfl (by rw [Try.underlying124]; rfl) Try.underlying3 (by omega)) ?_)))))
        refine zm rfl (zd rfl (op_convI64 rfl (by rw [Try.underlying124]; rfl) Try.underlying3 (by omega)) ?_)
        refine zd rfl (op_build tB24b rfl rfl) (wl_op [] rfl rfl rfl rfl (op_alloc (l := 9) tN24b) ?_)
        rintro _ _ ⟨b9, rfl, rfl⟩
        refine wl_op0 [9] rfl rfl rfl (op_store rfl rfl tZ24b (by rfl) (by rfl) (by exact Nat.le_of_ble_eq_true rfl)) ?_
        rintro _ _ ⟨rfl, rfl⟩
        refine wl_nil (st_tn (w_seq (w_seq (w_region (zm rfl (zd rfl (op_lss rfl rfl) (zm rfl (zd rfl (op_lss rfl rfl) (zd rfl (op_neB rfl rfl Try.underlying4) (wl_nil (st_tn (w_cond rfl (fun hc42 => ?_) (fun hc42 => ?_)))))))))))))
        · -- c42.t
          refine w_region (zd rfl (op_fieldAddr (off := 0) rfl tF24_0b) (zd rfl (op_load1 rfl tO3b (Ent.lab (l := 9) rfl (says_cel 0))) (zd rfl (op_neg rfl (by omega)) ?_)))
          refine zd rfl (op_fieldAddr (off := 0) rfl tF24_0b) (wl_op0 [9] rfl rfl rfl (op_store rfl rfl tZ3b (by rfl) (by rfl) (by exact Nat.le_of_ble_eq_true rfl)) ?_)
          rintro _ _ ⟨rfl, rfl⟩
          refine wl_nil (st_tn (w_seq (w_region (zd rfl (op_loadA rfl tA24b (Ent.lab (l := 9) rfl (says_cel 0)) (Nat.le_of_ble_eq_true rfl)) (wl_op0 [4] rfl rfl rfl (op_store rfl rfl tZ24b (by rfl) (by rfl) (by exact Nat.le_of_ble_eq_true rfl)) ?_)))))
          rintro _ _ ⟨rfl, rfl⟩
          refine za rfl (wl_nil (st_tn (w_ret (st_ret (vs := [_, _]) [] Try.results54 ⟨⟨_, rfl, Ent.mono (Ent.lab (l := 4) rfl (says_cel 0)) (fun _ h => run_load_agg tA24b h (Nat.le_of_ble_eq_true rfl))⟩, ⟨rfl, trivial⟩⟩ rfl ?_))))
          refine ⟨_, rfl, ?_⟩
          refine ⟨?_, rfl⟩
          unfold mkF; rw [if_neg hc11, hp, hq, if_neg hc31, hc42]; rfl
        · -- c42.f
          refine w_skip (st_tn (w_seq (w_region (zd rfl (op_loadA rfl tA24b (Ent.lab (l := 9) rfl (says_cel 0)) (Nat.le_of_ble_eq_true rfl)) (wl_op0 [4] rfl rfl rfl (op_store rfl rfl tZ24b (by rfl) (by rfl) (by exact Nat.le_of_ble_eq_true rfl)) ?_)))))
          rintro _ _ ⟨rfl, rfl⟩
          refine za rfl (wl_nil (st_tn (w_ret (st_ret (vs := [_, _]) [] Try.results54 ⟨⟨_, rfl, Ent.mono (Ent.lab (l := 4) rfl (says_cel 0)) (fun _ h => run_load_agg tA24b h (Nat.le_of_ble_eq_true rfl))⟩, ⟨rfl, trivial⟩⟩ rfl ?_))))
          refine ⟨_, rfl, ?_⟩
          refine ⟨?_, rfl⟩
          unfold mkF; rw [if_neg hc11, hp, hq, if_neg hc31, hc42]; rfl
end Go.Proofs.Ytbgddblfalahfaa
namespace Go.Proofs.Ytbgddblfalahfaa
open Go Go.SL Go.RowKit
set_option linter.unusedVariables false
set_option linter.unusedSimpArgs false
theorem tA24c : aggB Try.prog 24 2 = true := by kernel_rfl
theorem tF24_0c : fieldB Try.prog 24 0 0 = true := by kernel_rfl
theorem tF24_1c : fieldB Try.prog 24 1 1 = true := by kernel_rfl
theorem tG24c : Try.prog.eqGuardType Try.prog.depth 24 = false := by kernel_rfl
theorem tL25_1c : zerosB Try.prog 25 3 1 1 = some [Value.int .i64 0] := by kernel_rfl
theorem tMixc : Try.prog.follows .mixedOrders = true := by kernel_rfl
theorem tN24c : (Try.prog.info? 24).bind (·.zero) = some (Value.agg #[Value.int .i64 0, Value.int .i64 0]) := by kernel_rfl
theorem tO3c : oneB Try.prog 3 = true := by kernel_rfl
theorem tO5c : oneB Try.prog 5 = true := by kernel_rfl
theorem tP25c : appB Try.prog 25 3 1 8 = true := by kernel_rfl
theorem tS22c : sliceB Try.prog 22 5 1 = true := by kernel_rfl
theorem tS25c : sliceB Try.prog 25 3 1 = true := by kernel_rfl
theorem tZ24c : (Try.prog.info? 24).map (·.size) = some 2 := by kernel_rfl
abbrev frac (x y : Int) : Value := .agg #[.int .i64 x, .int .i64 y]
def chkF (x y : Int) : Int := if mkF x y = (x, y, 0) then 0 else 3
set_option maxHeartbeats 1000000 in
set_option maxRecDepth 100000 in
theorem fcheck_any {σ : World} {F : List Res} (x y : Int) (hx : -9223372036854775808 ≤ x ∧ x ≤ 9223372036854775807) (hy : -9223372036854775808 ≤ y ∧ y ≤ 9223372036854775807) :
    FnT Try.prog σ F 48 [frac x y] [] (fun u ρ => u = .int .i64 (chkF x y) ∧ ρ = []) := by
  refine fn_of 20 Try.func48 rfl Try.ntmps48 rfl ?_
  refine w_seq (w_region (wl_op [] rfl rfl rfl rfl (op_box (T := 24) (l := 1) rfl) ?_))
  rintro _ _ ⟨b1, rfl, rfl⟩
  refine za rfl (wl_nil (st_tn (w_seq (w_seq (w_region (zd rfl (op_fieldAddr (off := 0) rfl tF24_0c) (zd rfl (op_load1 rfl tO3c (Ent.lab (l := 1) rfl (says_cel 0))) (zd rfl (op_fieldAddr (off := 1) rfl tF24_1c) (zd rfl (op_load1 rfl tO3c (Ent.lab (l := 1) rfl (says_cel 1))) (zd rfl (op_fn Try.func54 rfl rfl rfl (mk_any _ _ (by omega) (by omega))) ?_))))))))))
  refine zm rfl (zd rfl (op_extract rfl rfl) (zd rfl (op_extract rfl rfl) (wl_op [] rfl rfl rfl rfl (op_alloc (l := 3) tN24c) ?_)))
  rintro _ _ ⟨b3, rfl, rfl⟩
  refine wl_op0 [3] rfl rfl rfl (op_store rfl rfl tZ24c (by rfl) (by rfl) (by exact Nat.le_of_ble_eq_true rfl)) ?_
  rintro _ _ ⟨rfl, rfl⟩
  refine za rfl (wl_nil (st_tn (w_seq (w_cutL [(19, .bool (decide (mkF x y ≠ (x, y, 0))))] [] [1, 3] rfl (fun K' hK => ?_) ?_))))
  · -- cut r2
    refine w_region (zm rfl (zd rfl (op_neq rfl rfl) (zm rfl (wl_gsplit (t := 15) rfl (fun hg15 => ?_) (fun hg15 => ?_)))))
    · -- 15 is True
      refine wl_unwanted rfl rfl rfl rfl rfl rfl rfl rfl (wl_unwanted rfl rfl rfl rfl rfl rfl rfl rfl (wl_unwanted rfl rfl rfl rfl rfl rfl rfl rfl (zd rfl (op_pick_t rfl rfl) (wl_nil (st_tn ?_)))))
      exact cut_done1 [1, 3] hK rfl (by generalize mkF x y = r at *; obtain ⟨p, q, e⟩ := r; first | (simp_all; done) | (simp_all; omega)) (by rfl) rfl rfl
    · -- 15 is False
      refine wl_wanted_det rfl rfl rfl rfl rfl rfl rfl (op_loadA rfl tA24c (Ent.lab (l := 3) rfl (says_cel 0)) (Nat.le_of_ble_eq_true rfl)) (wl_wanted_det rfl rfl rfl rfl rfl rfl rfl (op_loadA rfl tA24c (Ent.lab (l := 1) rfl (says_cel 0)) (Nat.le_of_ble_eq_true rfl)) (wl_wanted_det rfl rfl rfl rfl rfl rfl rfl (op_neA rfl rfl tG24c (eq24 _ _ _ _)) (zd rfl (op_pick_f rfl rfl) (wl_nil (st_tn ?_)))))
      exact cut_done1 [1, 3] hK rfl (by generalize mkF x y = r at *; obtain ⟨p, q, e⟩ := r; first | (simp_all; done) | (simp_all; omega)) (by rfl) rfl rfl
  · -- behind r2
    show W _ _ _ _ _ [(19, _)] [(1, _), (3, _)] _
    refine w_cond_d rfl (fun hc19 => ?_) (fun hc19 => ?_)
    · -- c19.t
      refine w_seq (w_region (za rfl (wl_nil (st_tn (w_ret (st_tr (st_ret (vs := [_]) [] Try.results48 ⟨rfl, trivial⟩ rfl ?_)))))))
      refine ⟨_, rfl, ?_⟩
      refine ⟨?_, rfl⟩; unfold chkF; rw [if_neg hc19]; rfl
    · -- c19.f
      refine w_skip (st_tn (w_seq (w_region (za rfl (wl_nil (st_tn (w_ret (st_ret (vs := [_]) [] Try.results48 ⟨rfl, trivial⟩ rfl ?_))))))))
      refine ⟨_, rfl, ?_⟩
      refine ⟨?_, rfl⟩; unfold chkF; rw [if_pos (Classical.byContradiction hc19)]; rfl
def goodB (x y : Int) : Prop := mkF x y = (x, y, 0) ∧ 0 < x ∧ x ≤ y
instance (x y : Int) : Decidable (goodB x y) := by unfold goodB; infer_instance
theorem goodB_bd {x y : Int} (h : goodB x y) : 0 < x ∧ x ≤ y ∧ y ≤ 1048576 := by
  have := mkF_ok h.1; have := h.2; omega
set_option maxHeartbeats 400000 in
set_option maxRecDepth 100000 in
theorem squant_any {σ : World} {F : List Res} (x y : Int) (hx : -9223372036854775808 ≤ x ∧ x ≤ 9223372036854775807) (hy : -9223372036854775808 ≤ y ∧ y ≤ 9223372036854775807) :
    FnT Try.prog σ F 46 [frac x y] [] (fun u ρ => u = .bool (decide (goodB x y)) ∧ ρ = []) := by
  refine fn_of 18 Try.func46 rfl Try.ntmps46 rfl ?_
  refine w_seq (w_region (wl_op [] rfl rfl rfl rfl (op_box (T := 24) (l := 1) rfl) ?_))
  rintro _ _ ⟨b1, rfl, rfl⟩
  refine za rfl (wl_nil (st_tn (w_seq (w_cutL [(2, .bool (decide (goodB x y)))] [] [1] rfl (fun K' hK => ?_) ?_))))
  · -- cut r1
    refine w_region (zd rfl (op_loadA rfl tA24c (Ent.lab (l := 1) rfl (says_cel 0)) (Nat.le_of_ble_eq_true rfl)) (zd rfl (op_fn Try.func48 rfl rfl rfl (fcheck_any _ _ (by omega) (by omega))) ?_))
    refine zd rfl (op_eql rfl rfl) (zm rfl (wl_gsplit (t := 6) rfl (fun hg6 => ?_) (fun hg6 => ?_)))
    · -- 6 is True
      refine wl_wanted_det rfl rfl rfl rfl rfl rfl rfl (op_fieldAddr (off := 0) rfl tF24_0c) (wl_wanted_det rfl rfl rfl rfl rfl rfl rfl (op_load1 rfl tO3c (Ent.lab (l := 1) rfl (says_cel 0))) (wl_wanted_det rfl rfl rfl rfl rfl rfl rfl (op_gtr rfl rfl) (zd rfl (op_pick_t rfl rfl) (zm rfl (wl_gsplit (t := 11) rfl (fun hg11 => ?_) (fun hg11 => ?_))))))
      · -- 11 is True
        refine wl_wanted_det rfl rfl rfl rfl rfl rfl rfl (op_fieldAddr (off := 0) rfl tF24_0c) (wl_wanted_det rfl rfl rfl rfl rfl rfl rfl (op_load1 rfl tO3c (Ent.lab (l := 1) rfl (says_cel 0))) (wl_wanted_det rfl rfl rfl rfl rfl rfl rfl (op_fieldAddr (off := 1) rfl tF24_1c) (wl_wanted_det rfl rfl rfl rfl rfl rfl rfl (op_load1 rfl tO3c (Ent.lab (l := 1) rfl (says_cel 1))) (wl_wanted_det rfl rfl rfl rfl rfl rfl rfl (op_leq rfl rfl) (zd rfl (op_pick_t rfl rfl) (za rfl (wl_nil (st_tn ?_))))))))
        exact cut_done1 [1] hK rfl (by unfold goodB; unfold chkF at *; by_cases h1 : mkF x y = (x, y, 0) <;> simp_all <;> omega) (by rfl) rfl rfl
      · -- 11 is False
        refine wl_unwanted rfl rfl rfl rfl rfl rfl rfl rfl (wl_unwanted rfl rfl rfl rfl rfl rfl rfl rfl (wl_unwanted rfl rfl rfl rfl rfl rfl rfl rfl (wl_unwanted rfl rfl rfl rfl rfl rfl rfl rfl (wl_unwanted rfl rfl rfl rfl rfl rfl rfl rfl (zd rfl (op_pick_f rfl rfl) (za rfl (wl_nil (st_tn ?_))))))))
        exact cut_done1 [1] hK rfl (by unfold goodB; unfold chkF at *; by_cases h1 : mkF x y = (x, y, 0) <;> simp_all <;> omega) (by rfl) rfl rfl
    · -- 6 is False
      refine wl_unwanted rfl rfl rfl rfl rfl rfl rfl rfl (wl_unwanted rfl rfl rfl rfl rfl rfl rfl rfl (wl_unwanted rfl rfl rfl rfl rfl rfl rfl rfl (zd rfl (op_pick_f rfl rfl) (zm rfl (wl_unwanted rfl rfl rfl rfl rfl rfl rfl rfl (wl_unwanted rfl rfl rfl rfl rfl rfl rfl rfl (wl_unwanted rfl rfl rfl rfl rfl rfl rfl rfl (wl_unwanted rfl rfl rfl rfl rfl rfl rfl rfl (wl_unwanted rfl rfl rfl rfl rfl rfl rfl rfl (zd rfl (op_pick_f rfl rfl) (za rfl (wl_nil (st_tn ?_)))))))))))))
      exact cut_done1 [1] hK rfl (by unfold goodB; unfold chkF at *; by_cases h1 : mkF x y = (x, y, 0) <;> simp_all <;> omega) (by rfl) rfl rfl
  · -- behind r1
    show W _ _ _ _ _ [(2, _)] [(1, _)] _
    refine w_ret (st_ret (vs := [_]) [] Try.results46 ⟨rfl, trivial⟩ rfl ?_)
    refine ⟨_, rfl, ?_⟩
    exact ⟨rfl, rfl⟩
set_option maxHeartbeats 400000 in
set_option maxRecDepth 100000 in
theorem points_any {σ : World} {F : List Res} {a : Option Addr} {c : Nat} {l : List Int} (lab : Nat) (h : Sl σ F encY 1 (.slice a l.length c) l) (hb : ∀ x ∈ l, 0 ≤ x ∧ x ≤ 255) :
    FnT Try.prog σ F 14 [.slice a l.length c] [] (NewZ (l.take 30) lab) := by
  refine fn_of 24 Try.func14 rfl Try.ntmps14 rfl ?_
  have hle := h.i64
  refine w_seq (w_region (za rfl (wl_nil (st_tn (w_seq (w_region (za rfl (wl_nil (st_tn (w_seq (w_seq (w_region (za rfl ?_)))))))))))))
  refine wl_nil (st_tn (w_block (w_emp 3 (slO_nil 3 1) ?_)))
  refine w_loopQ (X := Nat × List Int × Option Addr × Nat) (fun z => (z.1 ≤ l.length ∧ z.1 ≤ 30) ∧ z.2.1 = l.take z.1) (fun z => [(4, .int .i64 (z.1)), (3, .slice (z.2.2.1) (z.2.1).length (z.2.2.2))]) (fun z => [(3, slW 3 SL.encZ 1 (.slice (z.2.2.1) (z.2.1).length (z.2.2.2)) (z.2.1))]) (fun z => 30 - z.1) ((0, [], none, 0)) [(0, _)] [] [3] rfl (rfl) (.cons rfl (.cons rfl (.nil _))) (.cons rfl (.nil _)) (by
      try dsimp only
      exact ⟨⟨Nat.zero_le _, Nat.zero_le _⟩, rfl⟩) ?_
  rintro ⟨i, out, a_out, c_out⟩ ⟨⟨hi, hi2⟩, ho⟩
  refine w_norm2 (by dsimp only [List.cons_append, List.nil_append]) (by dsimp only [List.cons_append, List.nil_append]) ?_
  try dsimp only at hi hi2 ho ⊢
  refine w_seq (w_seq (w_cutL [(12, .bool (decide (i < l.length ∧ i < 30)))] [0, 3, 4] [3] rfl (fun K' hK => ?_) ?_))
  · -- cut r3
    refine w_region (zm rfl (zm rfl (zd rfl (op_lenT rfl tS22c (Sl.ent (by first | exact Sl.app (by assumption) _ | exact Sl.app (Sl.app (by assumption) _) _))) ?_)))
    refine zd rfl (op_lss rfl rfl) (zm rfl (wl_gsplit (t := 9) rfl (fun hg9 => ?_) (fun hg9 => ?_)))
    · -- 9 is True
      refine wl_wanted_det rfl rfl rfl rfl rfl rfl rfl (op_move rfl) (wl_wanted_det rfl rfl rfl rfl rfl rfl rfl (op_lss rfl rfl) (zd rfl (op_pick_t rfl rfl) (wl_nil (st_tn ?_))))
      exact cut_done1 [3] hK rfl (by first | (rw [decide_eq_decide]; omega) | (symm; rw [decide_eq_false_iff_not]; omega) | (symm; rw [decide_eq_true_iff]; omega) | (simp; done) | (simp; omega) | (simp [*]; done) | (simp [*]; omega)) (by rfl) rfl rfl
    · -- 9 is False
      refine wl_unwanted rfl rfl rfl rfl rfl rfl rfl rfl (wl_unwanted rfl rfl rfl rfl rfl rfl rfl rfl (zd rfl (op_pick_f rfl rfl) (wl_nil (st_tn ?_))))
      exact cut_done1 [3] hK rfl (by first | (rw [decide_eq_decide]; omega) | (symm; rw [decide_eq_false_iff_not]; omega) | (symm; rw [decide_eq_true_iff]; omega) | (simp; done) | (simp; omega) | (simp [*]; done) | (simp [*]; omega)) (by rfl) rfl rfl
  · -- behind r3
    show W _ _ _ _ _ [(12, _), (0, _), (3, _), (4, _)] [(3, _)] _
    refine w_cond_d rfl (fun hc12 => ?_) (fun hc12 => ?_)
    · -- c12.t
      obtain ⟨x, hx⟩ := getE (l := l) (i := i) hc12.1
      have hlt := ltE hx
      have hxb := hb x (List.mem_of_getElem? hx)
      have hol : out.length = i := by rw [ho, List.length_take]; omega
      refine w_skip (st_tn (w_seq (w_block (w_region (zm rfl (zm rfl (zm rfl (zd rfl (op_idx rfl rfl tS22c (Sl.ent (by first | exact Sl.app (by assumption) _ | exact Sl.app (Sl.app (by assumption) _) _)) (by omega)) ?_))))))))
      refine zd rfl (op_ldx rfl tO5c (by first | exact Sl.app (by assumption) _ | exact Sl.app (Sl.app (by assumption) _) _) (by assumption) (by rfl)) ?_
      refine zd rfl (op_convI64 rfl (by rw [Try.underlying5]; rfl) Try.underlying3 (by omega)) ?_
      refine wl_op [] rfl rfl rfl rfl (op_buildSlice (enc := SL.encZ) (l := [_]) (lab := 21) tL25_1c rfl rfl (fun _ => rfl) rfl) ?_
      rintro _ _ ⟨a21, c21, rfl, rfl⟩
      refine wl_op [3] rfl rfl rfl rfl (op_append (lab := 3) (lab' := 22) rfl rfl tP25c SL.enc1Z (Sl.lab 21 rfl (by simp [maxLen])) (by first | omega | (simp; done) | (simp; omega) | (simp [*]; omega)) (by first | omega | (simp; done) | (simp; omega) | (simp [*]; omega))) ?_
      rintro _ _ ⟨a22, c22, rfl, rfl⟩
      refine za rfl (wl_nil (st_bn (st_tn (w_region (zm rfl (zd rfl (op_add' rfl rfl (by omega)) ?_))))))
      refine za rfl (wl_nil ?_)
      refine st_roundQ (x := (i, out, a_out, c_out)) ((i + 1, _, _, _)) [22] rfl (rfl) (.cons rfl (.cons rfl (.nil _))) (.cons rfl (.nil _)) (by
          try dsimp only
          exact ⟨⟨by omega, by omega⟩, by rw [take_snoc hx, ho]⟩) (by
          try dsimp only
          omega)
    · -- c12.f
      refine w_exit (st_te ?_)
      refine st_te ?_
      refine st_be (st_tn (w_seq (w_region (zm rfl (za rfl (wl_nil (st_tn (w_ret (st_ret (vs := [_]) [3] Try.results14 ⟨rfl, trivial⟩ rfl ?_)))))))))
      refine ⟨[(lab, _)], rfl, ?_⟩
      have hfin : l.take 30 = out := by
        rw [ho]
        rcases Nat.lt_or_ge i 30 with h12 | h12
        · rw [List.take_of_length_le (by omega), List.take_of_length_le (by omega)]
        · rw [show i = 30 by omega]
      rw [hfin]; exact ⟨_, _, rfl, rfl⟩
set_option maxHeartbeats 400000 in
set_option maxRecDepth 100000 in
theorem ints_any {σ : World} {F : List Res} {a b : Option Addr} {c d : Nat} {l m : List Int} (h : Sl σ F encZ 1 (.slice a l.length c) l) (g : Sl σ F encZ 1 (.slice b m.length d) m) :
    FnT Try.prog σ F 22 [.slice a l.length c, .slice b m.length d] [] (fun u ρ => u = .bool (decide (l = m)) ∧ ρ = []) := by
  refine fn_of 26 Try.func22 rfl Try.ntmps22 rfl ?_
  have hle := h.i64
  have gle := g.i64
  refine w_seq (w_region (za rfl (wl_nil (st_tn (w_seq (w_seq (w_region (zm rfl (zd rfl (op_lenT rfl tS25c (Sl.ent (by first | exact Sl.app (by assumption) _ | exact Sl.app (Sl.app (by assumption) _) _))) ?_)))))))))
  refine zm rfl (zd rfl (op_lenT rfl tS25c (Sl.ent (by first | exact Sl.app (by assumption) _ | exact Sl.app (Sl.app (by assumption) _) _))) ?_)
  refine zd rfl (op_neq rfl rfl) (wl_nil (st_tn (w_cond_d rfl (fun hc10 => ?_) (fun hc10 => ?_))))
  · -- c10.t
    refine w_seq (w_region (za rfl (wl_nil (st_tn (w_ret (st_tr (st_ret (vs := [_]) [] Try.results22 ⟨rfl, trivial⟩ rfl ?_)))))))
    refine ⟨_, rfl, ?_⟩
    refine ⟨?_, rfl⟩; have : l ≠ m := fun e => by subst e; exact hc10 rfl
    simp [retv, this]
  · -- c10.f
    refine w_skip (st_tn (w_seq (w_seq (w_region (za rfl (wl_nil (st_tn (w_block ?_))))))))
    refine w_loopQ (X := Nat) (fun z => z ≤ l.length ∧ l.take z = m.take z) (fun z => [(5, .int .i64 (z))]) (fun _ => []) (fun z => l.length - z) (0) [(0, _), (1, _)] [] [] rfl (rfl) (.cons rfl (.nil _)) (.cons rfl (.cons rfl (.nil _))) (by
        try dsimp only
        exact ⟨Nat.zero_le _, by simp⟩) ?_
    rintro i ⟨hi, hn⟩
    refine w_norm2 (by dsimp only [List.cons_append, List.nil_append]) (by dsimp only [List.cons_append, List.nil_append]) ?_
    try dsimp only at hi hn ⊢
    refine w_seq (w_seq (w_region (zm rfl (zm rfl (zd rfl (op_lenT rfl tS25c (Sl.ent (by first | exact Sl.app (by assumption) _ | exact Sl.app (Sl.app (by assumption) _) _))) ?_)))))
    refine zd rfl (op_lss rfl rfl) (wl_nil (st_tn (w_cond_d rfl (fun hc14 => ?_) (fun hc14 => ?_))))
    · -- c14.t
      obtain ⟨y, hy⟩ := getE (l := l) (i := i) (by omega)
      obtain ⟨z, hz⟩ := getE (l := m) (i := i) (by omega)
      have hlt := ltE hy
      refine w_skip (st_tn (w_seq (w_block (w_seq ?_))))
      refine w_draw (D := [⟨17, [], [], [], _, false, [], []⟩, ⟨18, [], [], [], _, false, [], []⟩, ⟨19, [0, 1], [], [], _, false, [], []⟩, ⟨20, [2], [], [], _, false, [], []⟩, ⟨21, [], [], [], _, false, [], []⟩, ⟨22, [], [], [], _, false, [], []⟩, ⟨23, [4, 5], [], [], _, false, [], []⟩, ⟨24, [6], [], [], _, false, [], []⟩]) [] [0, 5, 1] [⟨17, [], [], false, [], []⟩, ⟨18, [], [], false, [], []⟩, ⟨19, [0, 1], [], false, [], []⟩, ⟨20, [2], [], false, [], []⟩, ⟨21, [], [], false, [], []⟩, ⟨22, [], [], false, [], []⟩, ⟨23, [4, 5], [], false, [], []⟩, ⟨24, [6], [], false, [], []⟩] tMixc (by rfl) (by kernel_rfl) (by rfl) (by rfl)
          ⟨.plain rfl (by intro X; exact op_move rfl),
          ⟨.plain rfl (by intro X; exact op_move rfl),
          ⟨.plain rfl (by intro X; rintro _ _ ⟨rfl, rfl⟩ _ _ ⟨rfl, rfl⟩; exact op_idx rfl rfl tS25c (Sl.ent (by first | exact Sl.app (by assumption) _ | exact Sl.app (Sl.app (by assumption) _) _)) (by omega)),
          ⟨.plain rfl (by intro X; rintro _ _ ⟨rfl, rfl⟩; exact op_ldx rfl tO3c (by first | exact Sl.app (by assumption) _ | exact Sl.app (Sl.app (by assumption) _) _) (by assumption) (by rfl)),
          ⟨.plain rfl (by intro X; exact op_move rfl),
          ⟨.plain rfl (by intro X; exact op_move rfl),
          ⟨.plain rfl (by intro X; rintro _ _ ⟨rfl, rfl⟩ _ _ ⟨rfl, rfl⟩; exact op_idx rfl rfl tS25c (Sl.ent (by first | exact Sl.app (by assumption) _ | exact Sl.app (Sl.app (by assumption) _) _)) (by omega)),
          ⟨.plain rfl (by intro X; rintro _ _ ⟨rfl, rfl⟩; exact op_ldx rfl tO3c (by first | exact Sl.app (by assumption) _ | exact Sl.app (Sl.app (by assumption) _) _) (by assumption) (by rfl)),
          trivial⟩⟩⟩⟩⟩⟩⟩⟩ ?_
      rintro _ _ ⟨rfl, rfl⟩ _ _ ⟨rfl, rfl⟩ _ _ ⟨rfl, rfl⟩ _ _ ⟨rfl, rfl⟩ _ _ ⟨rfl, rfl⟩ _ _ ⟨rfl, rfl⟩ _ _ ⟨rfl, rfl⟩ _ _ ⟨rfl, rfl⟩
      refine wl_norm (e' := [(0, _), (1, _), (5, _), (20, _), (24, _)]) (.cons rfl (.cons rfl (.cons rfl (.cons rfl (.cons rfl (.nil _)))))) (by dsimp only [cond_false, cond_true, List.nil_append, List.cons_append]) ?_
      refine zd rfl (op_neq rfl rfl) (wl_nil (st_tn (w_cond_d rfl (fun hc25 => ?_) (fun hc25 => ?_))))
      · -- c25.t
        refine w_seq (w_region (za rfl (wl_nil (st_tn (w_ret (st_br (st_tr (st_tr (st_br (st_tr (st_ret (vs := [_]) [] Try.results22 ⟨rfl, trivial⟩ rfl ?_)))))))))))
        refine ⟨_, rfl, ?_⟩
        refine ⟨?_, rfl⟩; have : l ≠ m := fun e => by subst e; rw [hy] at hz; simp at hz; exact hc25 hz
        simp [retv, this]
      · -- c25.f
        refine w_skip (st_bn (st_tn (w_region (zm rfl (zd rfl (op_add' rfl rfl (by omega)) ?_)))))
        refine za rfl (wl_nil ?_)
        refine st_roundQ (x := i) (i + 1) [] rfl (rfl) (.cons rfl (.nil _)) (.cons rfl (.cons rfl (.nil _))) (by
            try dsimp only
            exact ⟨by omega, by rw [take_snoc hy, take_snoc hz, hn, show y = z by omega]⟩) (by
            try dsimp only
            omega)
    · -- c14.f
      refine w_exit (st_te ?_)
      refine st_te ?_
      refine st_be (st_tn (w_seq (w_region (za rfl (wl_nil (st_tn (w_ret (st_ret (vs := [_]) [] Try.results22 ⟨rfl, trivial⟩ rfl ?_))))))))
      refine ⟨_, rfl, ?_⟩
      refine ⟨?_, rfl⟩; rw [take_all (by omega), take_all (by omega)] at hn; simp [retv, hn]
def rankOf (n : Nat) (x y : Int) : Int := (x * n + y - 1) / y
theorem rankOf_bd {n : Nat} {x y : Int} (hn : 0 < n) (h : goodB x y) : 1 ≤ rankOf n x y ∧ rankOf n x y ≤ n := by
  have hb := goodB_bd h
  unfold rankOf
  have h1 : x * 1 ≤ x * n := Int.mul_le_mul_of_nonneg_left (by omega) (by omega)
  have h2 : x * n ≤ y * n := Int.mul_le_mul_of_nonneg_right (by omega) (by omega)
  constructor
  · have := Int.ediv_le_ediv (a := y) (c := y) (b := x * n + y - 1) (by omega) (by omega)
    rwa [Int.ediv_self (by omega)] at this
  · have := Int.ediv_le_ediv (a := x * n + y - 1) (b := y * n + (y - 1)) (c := y) (by omega) (by omega)
    rw [Int.mul_add_ediv_left _ _ (by omega : y ≠ 0), Int.ediv_eq_zero_of_lt (a := y - 1) (b := y) (by omega) (by omega)] at this
    omega
def quantZ (l : List Int) (x y : Int) : Int := if l = [] then 0 else (srt l).getD (rankOf l.length x y - 1).toNat 0
set_option maxHeartbeats 1000000 in
set_option maxRecDepth 100000 in
theorem rank_any {σ : World} {F : List Res} {a : Option Addr} {c : Nat} {l : List Int} (x y : Int) (h : Sl σ F encZ 1 (.slice a l.length c) l) (hl : l.length ≤ 1099511627776) (hg : goodB x y) :
    FnT Try.prog σ F 47 [.slice a l.length c, frac x y] [] (fun u ρ => u = .int .i64 (quantZ l x y) ∧ ρ = []) := by
  refine fn_of 26 Try.func47 rfl Try.ntmps47 rfl ?_
  have hb := goodB_bd hg
  have hm1 : x * l.length ≤ 1048576 * 1099511627776 := Int.mul_le_mul (by omega) (by omega) (by omega) (by omega)
  have hm0 : 0 ≤ x * l.length := Int.mul_nonneg (by omega) (by omega)
  refine w_seq (w_region (wl_op [] rfl rfl rfl rfl (op_box (T := 24) (l := 3) rfl) ?_))
  rintro _ _ ⟨b3, rfl, rfl⟩
  refine za rfl (wl_nil (st_tn (w_seq (w_seq (w_region (zm rfl (zd rfl (op_lenT rfl tS25c (Sl.ent (by first | exact Sl.app (by assumption) _ | exact Sl.app (Sl.app (by assumption) _) _))) ?_)))))))
  refine zd rfl (op_eql rfl rfl) (wl_nil (st_tn (w_cond_d rfl (fun hc7 => ?_) (fun hc7 => ?_))))
  · -- c7.t
    refine w_seq (w_region (za rfl (wl_nil (st_tn (w_ret (st_tr (st_ret (vs := [_]) [] Try.results47 ⟨rfl, trivial⟩ rfl ?_)))))))
    refine ⟨_, rfl, ?_⟩
    refine ⟨?_, rfl⟩; unfold quantZ; rw [if_pos (List.eq_nil_of_length_eq_zero (by omega))]; rfl
  · -- c7.f
    have hr := rankOf_bd (n := l.length) (by omega) hg
    have hrk : (x * (l.length : Int) + y - 1) / y = rankOf l.length x y := rfl
    have hls := length_srt l
    obtain ⟨z, hz⟩ := getE (l := srt l) (i := (rankOf l.length x y - 1).toNat) (by omega)
    have hz0 := hz
    refine w_skip (st_tn (w_seq ?_))
    refine w_draw (D := [⟨8, [], [], [], _, false, [], []⟩, ⟨9, [0], [], [], _, false, [], []⟩, ⟨10, [1], [], [], _, false, [], []⟩, ⟨11, [], [], [], _, false, [], []⟩, ⟨12, [3], [], [], _, false, [], []⟩, ⟨13, [], [], [], _, false, [], []⟩, ⟨14, [5], [], [], _, false, [], []⟩, ⟨15, [4, 6], [], [], _, false, [], []⟩, ⟨16, [], [], [], _, false, [], []⟩, ⟨17, [8], [], [], _, false, [], []⟩, ⟨18, [7, 9], [], [], _, false, [], []⟩, ⟨19, [10], [], [], _, false, [], []⟩, ⟨20, [], [], [], _, false, [], []⟩, ⟨21, [12], [], [], _, false, [], []⟩, ⟨22, [11, 13], [], [], _, false, [], []⟩, ⟨23, [14], [], [], _, false, [], []⟩]) [] [0, 3] [⟨8, [], [], false, [], []⟩, ⟨9, [0], [], false, [], []⟩, ⟨10, [1], [], false, [], []⟩, ⟨11, [], [], false, [], []⟩, ⟨12, [3], [], false, [], []⟩, ⟨13, [], [], false, [], []⟩, ⟨14, [5], [], false, [], []⟩, ⟨15, [4, 6], [], false, [], []⟩, ⟨16, [], [], false, [], []⟩, ⟨17, [8], [], false, [], []⟩, ⟨18, [7, 9], [], false, [], []⟩, ⟨19, [10], [], false, [], []⟩, ⟨20, [], [], false, [], []⟩, ⟨21, [12], [], false, [], []⟩, ⟨22, [11, 13], [], false, [], []⟩, ⟨23, [14], [], false, [], []⟩] tMixc (by rfl) (by kernel_rfl) (by rfl) (by rfl)
        ⟨.plain rfl (by intro X; exact op_move rfl),
        ⟨.plain rfl (by intro X; rintro _ _ ⟨rfl, rfl⟩; exact op_fn Try.func75 rfl rfl rfl (values_any (v := .slice a l.length c) 9)),
        ⟨.plain rfl (by intro X; rintro _ _ ⟨b9, rfl, rfl⟩; exact op_fn Try.func74 rfl rfl rfl (sorted_any 10 (Ent.lab (l := 9) rfl (says_cel 0)) (by first | exact Sl.app h _ | exact Sl.app (Sl.app h _) _) hl)),
        ⟨.plain rfl (by intro X; exact op_fieldAddr (off := 0) rfl tF24_0c),
        ⟨.plain rfl (by intro X; rintro _ _ ⟨rfl, rfl⟩; exact op_load1 rfl tO3c (Ent.lab (l := 3) rfl (says_cel 0))),
        ⟨.plain rfl (by intro X; exact op_move rfl),
        ⟨.plain rfl (by intro X; rintro _ _ ⟨rfl, rfl⟩; exact op_lenT rfl tS25c (Sl.ent (by first | exact Sl.app (by assumption) _ | exact Sl.app (Sl.app (by assumption) _) _))),
        ⟨.plain rfl (by intro X; rintro _ _ ⟨rfl, rfl⟩ _ _ ⟨rfl, rfl⟩; exact op_mul' rfl rfl (by omega)),
        ⟨.plain rfl (by intro X; exact op_fieldAddr (off := 1) rfl tF24_1c),
        ⟨.plain rfl (by intro X; rintro _ _ ⟨rfl, rfl⟩; exact op_load1 rfl tO3c (Ent.lab (l := 3) rfl (says_cel 1))),
        ⟨.plain rfl (by intro X; rintro _ _ ⟨rfl, rfl⟩ _ _ ⟨rfl, rfl⟩; exact op_add' rfl rfl (by omega)),
        ⟨.plain rfl (by intro X; rintro _ _ ⟨rfl, rfl⟩; exact op_sub' rfl rfl (by omega)),
        ⟨.plain rfl (by intro X; exact op_fieldAddr (off := 1) rfl tF24_1c),
        ⟨.plain rfl (by intro X; rintro _ _ ⟨rfl, rfl⟩; exact op_load1 rfl tO3c (Ent.lab (l := 3) rfl (says_cel 1))),
        ⟨.plain rfl (by intro X; rintro _ _ ⟨rfl, rfl⟩ _ _ ⟨rfl, rfl⟩; exact op_quoN rfl rfl (by omega) (by omega) (by omega)),
        ⟨.plain rfl (by intro X; rintro _ _ ⟨rfl, rfl⟩; exact op_sub' rfl rfl (by omega)),
        trivial⟩⟩⟩⟩⟩⟩⟩⟩⟩⟩⟩⟩⟩⟩⟩⟩ ?_
    rintro _ _ ⟨rfl, rfl⟩ _ _ ⟨b9, rfl, rfl⟩ _ _ ⟨a10, c10, rfl, rfl⟩ _ _ ⟨rfl, rfl⟩ _ _ ⟨rfl, rfl⟩ _ _ ⟨rfl, rfl⟩ _ _ ⟨rfl, rfl⟩ _ _ ⟨rfl, rfl⟩ _ _ ⟨rfl, rfl⟩ _ _ ⟨rfl, rfl⟩ _ _ ⟨rfl, rfl⟩ _ _ ⟨rfl, rfl⟩ _ _ ⟨rfl, rfl⟩ _ _ ⟨rfl, rfl⟩ _ _ ⟨rfl, rfl⟩ _ _ ⟨rfl, rfl⟩
    refine wl_norm (e' := [(10, _), (23, _)]) (.cons rfl (.cons rfl (.nil _))) (by dsimp only [cond_false, cond_true, List.nil_append, List.cons_append]) ?_
    refine zd rfl (op_idxZ rfl rfl tS25c (Sl.ent (Sl.lab 10 rfl (by unfold maxLen; omega))) (by omega) (by omega)) ?_
    refine zd rfl (op_ldx rfl tO3c (Sl.lab 10 rfl (by unfold maxLen; omega)) (by assumption) (by rfl)) ?_
    refine za rfl (wl_nil (st_tn (w_ret (st_ret (vs := [_]) [] Try.results47 ⟨rfl, trivial⟩ rfl ?_))))
    refine ⟨_, rfl, ?_⟩
    refine ⟨?_, rfl⟩; unfold quantZ
    rw [if_neg (fun e => by subst e; simp at hc7), List.getD_eq_getElem?_getD]
    rw [hz0]; rfl
theorem sorted_take {s : List Int} (hs : s.Pairwise (· ≤ ·)) {j : Nat} {z : Int} (hz : s[j]? = some z) : (∀ x ∈ s.take (j + 1), x ≤ z) ∧ (∀ x ∈ s.drop j, z ≤ x) := by
  obtain ⟨hj, rfl⟩ := List.getElem?_eq_some_iff.1 hz
  constructor
  · intro x hx
    obtain ⟨q, hq, rfl⟩ := List.mem_take_iff_getElem.1 hx
    rcases Nat.lt_or_ge q j with h | h
    · exact List.pairwise_iff_getElem.1 hs q j (by omega) hj h
    · obtain rfl : q = j := by omega
      exact Int.le_refl _
  · intro x hx
    obtain ⟨q, hq, rfl⟩ := List.mem_drop_iff_getElem.1 hx
    rcases Nat.eq_zero_or_pos q with h | h
    · subst h; exact Int.le_refl _
    · exact List.pairwise_iff_getElem.1 hs j (j + q) hj _ (by omega)
theorem quant_unique {l : List Int} {r : Int} {z v : Int} (hr : 1 ≤ r) (hz : (srt l)[(r - 1).toNat]? = some z) (h1 : (l.countP (fun y => decide (y < v)) : Int) < r) (h2 : r ≤ (l.countP (fun y => decide (y ≤ v)) : Int)) : v = z := by
  rw [← (srt_perm l).countP_eq] at h1 h2
  obtain ⟨q1, q2⟩ := sorted_take (srt_le l) hz
  have hj := ltE hz
  rcases Int.lt_trichotomy v z with h | h | h
  · exfalso
    have e : (srt l).countP (fun y => decide (y ≤ v)) ≤ (r - 1).toNat := by
      rw [← List.take_append_drop (r - 1).toNat (srt l), List.countP_append]
      have e : ((srt l).drop (r - 1).toNat).countP (fun y => decide (y ≤ v)) = 0 := by
        rw [List.countP_eq_zero]; intro y hy; have := q2 y hy; simp; omega
      have := List.countP_le_length (l := (srt l).take (r - 1).toNat) (p := fun y => decide (y ≤ v))
      rw [List.length_take] at this
      omega
    omega
  · exact h
  · exfalso
    have e : (r - 1).toNat + 1 ≤ (srt l).countP (fun y => decide (y < v)) := by
      rw [← List.take_append_drop ((r - 1).toNat + 1) (srt l), List.countP_append]
      have e : ((srt l).take ((r - 1).toNat + 1)).countP (fun y => decide (y < v)) = ((srt l).take ((r - 1).toNat + 1)).length := by
        rw [List.countP_eq_length]; intro y hy; have := q1 y hy; simp; omega
      rw [e, List.length_take]; omega
    omega
end Go.Proofs.Ytbgddblfalahfaa
namespace Go.Proofs.Ytbgddblfalahfaa
open Go Go.SL Go.RowKit
set_option linter.unusedVariables false
set_option linter.unusedSimpArgs false
theorem tA24d : aggB Try.prog 24 2 = true := by kernel_rfl
theorem tA48d : aggB Try.prog 48 7 = true := by kernel_rfl
theorem tB48d : placesB Try.prog 48 = some ([(0, 1), (1, 1), (2, 1), (3, 2), (5, 1), (6, 1)], [Value.string .empty, Value.string .empty, Value.int .i64 0, Value.int .i64 0, Value.int .i64 0, Value.int .i64 0, Value.slice none 0 0]) := by kernel_rfl
theorem tF48_2d : fieldB Try.prog 48 2 2 = true := by kernel_rfl
theorem tF48_4d : fieldB Try.prog 48 4 5 = true := by kernel_rfl
theorem tF48_5d : fieldB Try.prog 48 5 6 = true := by kernel_rfl
theorem tL25_1d : zerosB Try.prog 25 3 1 1 = some [Value.int .i64 0] := by kernel_rfl
theorem tMixd : Try.prog.follows .mixedOrders = true := by kernel_rfl
theorem tN48d : (Try.prog.info? 48).bind (·.zero) = some (Value.agg #[Value.string .empty, Value.string .empty, Value.int .i64 0, Value.int .i64 0, Value.int .i64 0, Value.int .i64 0, Value.slice none 0 0]) := by kernel_rfl
theorem tO25d : oneB Try.prog 25 = true := by kernel_rfl
theorem tO3d : oneB Try.prog 3 = true := by kernel_rfl
theorem tP25d : appB Try.prog 25 3 1 8 = true := by kernel_rfl
theorem tS25d : sliceB Try.prog 25 3 1 = true := by kernel_rfl
theorem tZ25d : (Try.prog.info? 25).map (·.size) = some 1 := by kernel_rfl
theorem tZ3d : (Try.prog.info? 3).map (·.size) = some 1 := by kernel_rfl
theorem tZ48d : (Try.prog.info? 48).map (·.size) = some 7 := by kernel_rfl
structure SK where
  svc : ByteArray
  op : ByteArray
  met : Int
  qn : Int
  qd : Int
def K0 : SK := ⟨.empty, .empty, 0, 0, 0⟩
abbrev sr (k : SK) (fr : Int) (v : Value) : Value := .agg #[.string k.svc, .string k.op, .int .i64 k.met, .int .i64 k.qn, .int .i64 k.qd, .int .i64 fr, v]
structure R where
  k : SK
  fr : Int
  vals : List Int
  e : Int
def zeroR (e : Int) : R := ⟨K0, 0, [], e⟩
def SerV (r : R) (lab : Nat) (u : Value) (ρ : RL) : Prop := ∃ a c, u = .tuple #[sr r.k r.fr (.slice a r.vals.length c), .int .i64 r.e] ∧ ρ = [(lab, slW 3 encZ 1 (.slice a r.vals.length c) r.vals)]
set_option maxHeartbeats 400000 in
set_option maxRecDepth 100000 in
theorem like_any {σ : World} {F : List Res} (k : SK) (fr fr' : Int) (a a' : Option Addr) (m c m' c' : Nat) :
    FnT Try.prog σ F 55 [sr k fr (.slice a m c), .int .i64 fr', .slice a' m' c'] [] (fun u ρ => u = sr k fr' (.slice a' m' c') ∧ ρ = []) := by
  refine fn_of 12 Try.func55 rfl Try.ntmps55 rfl ?_
  refine w_seq (w_region (wl_op [] rfl rfl rfl rfl (op_box (T := 48) (l := 3) rfl) ?_))
  rintro _ _ ⟨b3, rfl, rfl⟩
  refine wl_op [] rfl rfl rfl rfl (op_alloc (l := 6) tN48d) ?_
  rintro _ _ ⟨b6, rfl, rfl⟩
  refine wl_nil (st_tn (w_seq (w_region (zm rfl (zm rfl (zd rfl (op_fieldAddr (off := 5) rfl tF48_4d) (wl_op0 [3] rfl rfl rfl (op_store rfl rfl tZ3d (by rfl) (by rfl) (by exact Nat.le_of_ble_eq_true rfl)) ?_)))))))
  rintro _ _ ⟨rfl, rfl⟩
  refine zd rfl (op_fieldAddr (off := 6) rfl tF48_5d) (wl_op0 [3] rfl rfl rfl (op_store rfl rfl tZ25d (by rfl) (by rfl) (by exact Nat.le_of_ble_eq_true rfl)) ?_)
  rintro _ _ ⟨rfl, rfl⟩
  refine wl_nil (st_tn (w_seq (w_region (zd rfl (op_loadA rfl tA48d (Ent.lab (l := 3) rfl (says_cel 0)) (Nat.le_of_ble_eq_true rfl)) (wl_op0 [6] rfl rfl rfl (op_store rfl rfl tZ48d (by rfl) (by rfl) (by exact Nat.le_of_ble_eq_true rfl)) ?_)))))
  rintro _ _ ⟨rfl, rfl⟩
  refine wl_nil (st_tn (w_ret (st_ret (vs := [_]) [] Try.results55 ⟨⟨_, rfl, Ent.mono (Ent.lab (l := 6) rfl (says_cel 0)) (fun _ h => run_load_agg tA48d h (Nat.le_of_ble_eq_true rfl))⟩, trivial⟩ rfl ?_)))
  refine ⟨_, rfl, ?_⟩
  exact ⟨rfl, rfl⟩
set_option maxHeartbeats 400000 in
set_option maxRecDepth 100000 in
theorem big_any {σ : World} {F : List Res} (x : Int) : FnT Try.prog σ F 58 [.int .i64 x] [] (fun u ρ => u = .bool (decide (x > 1099511627776)) ∧ ρ = []) := by
  refine fn_of 5 Try.func58 rfl Try.ntmps58 rfl ?_
  refine w_seq (w_region (za rfl (wl_nil (st_tn (w_seq (w_region (zm rfl (zd rfl (op_gtr rfl rfl) (za rfl (wl_nil (st_tn (w_ret (st_ret (vs := [_]) [] Try.results58 ⟨rfl, trivial⟩ rfl ?_)))))))))))))
  refine ⟨_, rfl, ?_⟩
  exact ⟨rfl, rfl⟩
def cstep (lat : Bool) (out : List Int) (k : Nat) (v : Int) : List Int := if k = out.length then out ++ [v] else out.set k (if lat then max (out.getD k 0) v else out.getD k 0 + v)
def coarseN (lat : Bool) (fr sz : Int) (l : List Int) : Nat → List Int
  | 0 => []
  | i + 1 => cstep lat (coarseN lat fr sz l i) ((fr + i) / sz - fr / sz).toNat (l.getD i 0)
theorem div_step {a s : Int} (hs : 0 < s) : (a + 1) / s = a / s ∨ (a + 1) / s = a / s + 1 := by
  have h1 := Int.ediv_mul_add_emod a s
  have h2 := Int.ediv_mul_add_emod (a + 1) s
  have h3 := Int.emod_nonneg a (by omega : s ≠ 0)
  have h4 := Int.emod_lt_of_pos a hs
  have h5 := Int.emod_nonneg (a + 1) (by omega : s ≠ 0)
  have h6 := Int.emod_lt_of_pos (a + 1) hs
  have h7 : (a + 1) / s * s < (a / s + 2) * s := by rw [Int.add_mul]; omega
  have h8 := Int.lt_of_mul_lt_mul_right h7 (by omega)
  have h9 : (a / s - 1) * s < (a + 1) / s * s := by rw [Int.sub_mul]; omega
  have h10 := Int.lt_of_mul_lt_mul_right h9 (by omega)
  omega
theorem coarse_len {lat : Bool} {fr sz : Int} (hs : 0 < sz) {l : List Int} : ∀ i : Nat, ((coarseN lat fr sz l (i + 1)).length : Int) = (fr + i) / sz - fr / sz + 1
  | 0 => by
    unfold coarseN coarseN cstep
    simp
  | i + 1 => by
    have ih := coarse_len (lat := lat) (fr := fr) hs (l := l) i
    have hd := div_step (a := fr + i) hs
    have hle : fr / sz ≤ (fr + i) / sz := Int.ediv_le_ediv hs (by omega)
    rw [show fr + ((i + 1 : Nat) : Int) = fr + i + 1 by omega]
    unfold coarseN cstep
    rw [show fr + ((i + 1 : Nat) : Int) = fr + i + 1 by omega]
    split
    · rename_i h; rw [List.length_append, List.length_singleton]; omega
    · rename_i h; rw [List.length_set]; omega
theorem coarse_cell {lat : Bool} {fr sz : Int} (hs : 0 < sz) {l : List Int} (i : Nat) : 0 ≤ (fr + i) / sz - fr / sz ∧ ((fr + i) / sz - fr / sz = (coarseN lat fr sz l i).length ∨ (fr + i) / sz - fr / sz < (coarseN lat fr sz l i).length) := by
  have hle : fr / sz ≤ (fr + i) / sz := Int.ediv_le_ediv hs (by omega)
  refine ⟨by omega, ?_⟩
  cases i with
  | zero => left; unfold coarseN; simp
  | succ i =>
    have h1 := coarse_len (lat := lat) (fr := fr) hs (l := l) i
    have hd := div_step (a := fr + i) hs
    rw [show fr + ((i + 1 : Nat) : Int) = fr + i + 1 by omega]
    omega
theorem coarse_bd {lat : Bool} {fr sz : Int} {l : List Int} {B : Int} (hB : 0 ≤ B) (hl : ∀ x ∈ l, 0 ≤ x ∧ x ≤ B) : ∀ (i : Nat), ∀ x ∈ coarseN lat fr sz l i, 0 ≤ x ∧ x ≤ i * B
  | 0, x, h => by simp [coarseN] at h
  | i + 1, x, h => by
    have ih := coarse_bd (lat := lat) (fr := fr) (sz := sz) hB hl i
    have hmul : ((i + 1 : Nat) : Int) * B = i * B + B := by rw [Int.natCast_add, Int.add_mul]; simp
    have hi : 0 ≤ (i : Int) * B := Int.mul_nonneg (by omega) hB
    have hv : 0 ≤ l.getD i 0 ∧ l.getD i 0 ≤ B := by
      rw [List.getD_eq_getElem?_getD]
      cases hx : l[i]? with
      | none => simp; omega
      | some y => exact hl y (List.mem_of_getElem? hx)
    unfold coarseN cstep at h
    rw [hmul]
    split at h
    · rcases List.mem_append.1 h with h | h
      · have := ih x h; omega
      · rw [List.mem_singleton] at h; subst h; omega
    · have hg : 0 ≤ (coarseN lat fr sz l i).getD ((fr + i) / sz - fr / sz).toNat 0 ∧ (coarseN lat fr sz l i).getD ((fr + i) / sz - fr / sz).toNat 0 ≤ i * B := by
        rw [List.getD_eq_getElem?_getD]
        cases hx : (coarseN lat fr sz l i)[((fr + i) / sz - fr / sz).toNat]? with
        | none => simp; omega
        | some y => exact ih y (List.mem_of_getElem? hx)
      rcases List.mem_or_eq_of_mem_set h with h | h
      · have := ih x h; omega
      · subst h; split <;> omega
theorem coarse_le {lat : Bool} {fr sz : Int} {l : List Int} : ∀ i : Nat, (coarseN lat fr sz l i).length ≤ i
  | 0 => by simp [coarseN]
  | i + 1 => by
    have := coarse_le (lat := lat) (fr := fr) (sz := sz) (l := l) i
    unfold coarseN cstep
    split <;> simp <;> omega
def coarsenR (k : SK) (fr : Int) (l : List Int) (sz : Int) : R :=
  if sz < 1 ∨ sz > 1048576 then zeroR 2 else
  if (coarseN (decide (k.met = 3)) fr sz l l.length).any (fun x => decide (x > 1099511627776)) then zeroR 20 else ⟨k, fr / sz, coarseN (decide (k.met = 3)) fr sz l l.length, 0⟩
set_option maxHeartbeats 4000000 in
set_option maxRecDepth 100000 in
theorem coarsen_any {σ : World} {F : List Res} {a : Option Addr} {c : Nat} {l : List Int} (lab : Nat) (k : SK) (fr sz : Int) (h : Sl σ F encZ 1 (.slice a l.length c) l) (hl : l.length ≤ 1048576) (hf : 0 ≤ fr ∧ fr ≤ 1048576) (hv : ∀ x ∈ l, 0 ≤ x ∧ x ≤ 1099511627776) :
    FnT Try.prog σ F 24 [sr k fr (.slice a l.length c), .int .i64 sz] [] (SerV (coarsenR k fr l sz) lab) := by
  refine fn_of 81 Try.func24 rfl Try.ntmps24 rfl ?_
  have hle := h.i64
  refine w_seq (w_region (wl_op [] rfl rfl rfl rfl (op_box (T := 48) (l := 2) rfl) ?_))
  rintro _ _ ⟨b2, rfl, rfl⟩
  refine wl_op [] rfl rfl rfl rfl (op_alloc (l := 4) tN48d) ?_
  rintro _ _ ⟨b4, rfl, rfl⟩
  refine za rfl (wl_nil (st_tn (w_seq (w_seq (w_cutL [(15, .bool (decide (sz < 1 ∨ sz > 1048576)))] [1, 2, 4] [2, 4] rfl (fun K' hK => ?_) ?_)))))
  · -- cut r1
    refine w_region (zm rfl (zd rfl (op_lss rfl rfl) (zm rfl (wl_gsplit (t := 12) rfl (fun hg12 => ?_) (fun hg12 => ?_)))))
    · -- 12 is True
      refine wl_unwanted rfl rfl rfl rfl rfl rfl rfl rfl (wl_unwanted rfl rfl rfl rfl rfl rfl rfl rfl (zd rfl (op_pick_t rfl rfl) (wl_nil (st_tn ?_))))
      exact cut_done1 [2, 4] hK rfl (by first | (rw [decide_eq_decide]; omega) | (symm; rw [decide_eq_false_iff_not]; omega) | (symm; rw [decide_eq_true_iff]; omega) | (simp; done) | (simp; omega) | (simp [*]; done) | (simp [*]; omega)) (by rfl) rfl rfl
    · -- 12 is False
      refine wl_wanted_det rfl rfl rfl rfl rfl rfl rfl (op_move rfl) (wl_wanted_det rfl rfl rfl rfl rfl rfl rfl (op_gtr rfl rfl) (zd rfl (op_pick_f rfl rfl) (wl_nil (st_tn ?_))))
      exact cut_done1 [2, 4] hK rfl (by first | (rw [decide_eq_decide]; omega) | (symm; rw [decide_eq_false_iff_not]; omega) | (symm; rw [decide_eq_true_iff]; omega) | (simp; done) | (simp; omega) | (simp [*]; done) | (simp [*]; omega)) (by rfl) rfl rfl
  · -- behind r1
    show W _ _ _ _ _ [(15, _), (1, _), (2, _), (4, _)] [(2, _), (4, _)] _
    refine w_cond_d rfl (fun hc15 => ?_) (fun hc15 => ?_)
    · -- c15.t
      refine w_seq (w_emp 77 (slO_nil 3 1) ?_)
      refine w_region (zd rfl (op_build tB48d rfl rfl) (wl_op0 [4] rfl rfl rfl (op_store rfl rfl tZ48d (by rfl) (by rfl) (by exact Nat.le_of_ble_eq_true rfl)) ?_))
      rintro _ _ ⟨rfl, rfl⟩
      refine za rfl (wl_nil (st_tn (w_ret (st_tr (st_ret (vs := [_, _]) [77] Try.results24 ⟨⟨_, rfl, Ent.mono (Ent.lab (l := 4) rfl (says_cel 0)) (fun _ h => run_load_agg tA48d h (Nat.le_of_ble_eq_true rfl))⟩, ⟨rfl, trivial⟩⟩ rfl ?_)))))
      refine ⟨[(lab, _)], rfl, ?_⟩
      unfold coarsenR; rw [if_pos hc15]; exact ⟨none, 0, rfl, rfl⟩
    · -- c15.f
      refine w_skip (st_tn (w_seq ?_))
      have hdv : fr / sz ≤ 1048576 := by have := Int.ediv_le_self sz hf.1; omega
      have hdv0 : 0 ≤ fr / sz := Int.ediv_nonneg hf.1 (by omega)
      refine w_draw (D := [⟨17, [], [], [], _, false, [], []⟩, ⟨18, [], [], [], _, false, [], []⟩, ⟨19, [1], [], [], _, false, [], []⟩, ⟨20, [], [], [], _, false, [], []⟩, ⟨21, [2, 3], [], [], _, false, [], []⟩, ⟨22, [0, 4], [], [], _, false, [], []⟩, ⟨6, [], [], [], _, false, [], []⟩]) [] [2, 1] [⟨17, [], [], false, [], []⟩, ⟨18, [], [], false, [], []⟩, ⟨19, [1], [], false, [], []⟩, ⟨20, [], [], false, [], []⟩, ⟨21, [2, 3], [], false, [], []⟩, ⟨22, [0, 4], [], false, [], []⟩, ⟨6, [], [], false, [], []⟩] tMixd (by rfl) (by kernel_rfl) (by rfl) (by rfl)
          ⟨.plain rfl (by intro X; exact op_loadA rfl tA48d (Ent.lab (l := 2) rfl (says_cel 0)) (Nat.le_of_ble_eq_true rfl)),
          ⟨.plain rfl (by intro X; exact op_fieldAddr (off := 5) rfl tF48_4d),
          ⟨.plain rfl (by intro X; rintro _ _ ⟨rfl, rfl⟩; exact op_load1 rfl tO3d (Ent.lab (l := 2) rfl (says_cel 5))),
          ⟨.plain rfl (by intro X; exact op_move rfl),
          ⟨.plain rfl (by intro X; rintro _ _ ⟨rfl, rfl⟩ _ _ ⟨rfl, rfl⟩; exact op_quoN rfl rfl (by omega) (by omega) (by omega)),
          ⟨.plain rfl (by intro X; rintro _ _ ⟨rfl, rfl⟩ _ _ ⟨rfl, rfl⟩; exact op_fn Try.func55 rfl rfl rfl (like_any _ _ _ _ _ _ _ _ _)),
          ⟨.plain rfl (by intro X; exact op_alloc (l := 6) tN48d),
          trivial⟩⟩⟩⟩⟩⟩⟩ ?_
      rintro _ _ ⟨rfl, rfl⟩ _ _ ⟨rfl, rfl⟩ _ _ ⟨rfl, rfl⟩ _ _ ⟨rfl, rfl⟩ _ _ ⟨rfl, rfl⟩ _ _ ⟨rfl, rfl⟩ _ _ ⟨b6, rfl, rfl⟩
      refine wl_norm (e' := [(1, _), (2, _), (4, _), (6, _), (22, _)]) (.cons rfl (.cons rfl (.cons rfl (.cons rfl (.cons rfl (.nil _)))))) (by dsimp only [cond_false, cond_true, List.nil_append, List.cons_append]) ?_
      refine wl_op0 [6] rfl rfl rfl (op_store rfl rfl tZ48d (by rfl) (by rfl) (by exact Nat.le_of_ble_eq_true rfl)) ?_
      rintro _ _ ⟨rfl, rfl⟩
      refine wl_nil (st_tn (w_seq (w_seq (w_region (zd rfl (op_fieldAddr (off := 6) rfl tF48_5d) (zd rfl (op_load1 rfl tO25d (Ent.lab (l := 2) rfl (says_cel 6))) (zd rfl (op_lenT rfl tS25d (Sl.ent (by first | exact Sl.app (by assumption) _ | exact Sl.app (Sl.app (by assumption) _) _))) ?_)))))))
      refine zm rfl (wl_nil (st_tn (w_block (w_emp 96 (slO_nil 3 1) ?_))))
      refine w_loopQ (X := Nat × List Int × Option Addr × Nat) (fun z => z.1 ≤ l.length ∧ z.2.1 = coarseN (decide (k.met = 3)) fr sz l z.1) (fun z => [(26, .int .i64 (z.1))]) (fun z => [(96, slW 3 SL.encZ 1 (.slice (z.2.2.1) (z.2.1).length (z.2.2.2)) (z.2.1)), (6, cel b6 [.string k.svc, .string k.op, .int .i64 k.met, .int .i64 k.qn, .int .i64 k.qd, .int .i64 (fr / sz), .slice (z.2.2.1) (z.2.1).length (z.2.2.2)] 48)]) (fun z => l.length - z.1) ((0, [], none, 0)) [(1, _), (2, _), (4, _), (6, _), (24, _), (25, _)] [(2, _), (4, _)] [96, 6, 2, 4] rfl (rfl) (.cons rfl (.nil _)) (.cons rfl (.cons rfl (.cons rfl (.cons rfl (.cons rfl (.cons rfl (.nil _))))))) (by
          try dsimp only
          exact ⟨Nat.zero_le _, rfl⟩) ?_
      rintro ⟨i, out, a_out, c_out⟩ ⟨hi, ho⟩
      refine w_norm2 (by dsimp only [List.cons_append, List.nil_append]) (by dsimp only [List.cons_append, List.nil_append]) ?_
      try dsimp only at hi ho ⊢
      refine w_seq (w_region (zd rfl (op_lss rfl rfl) (wl_nil (st_tn (w_seq (w_cond_d rfl (fun hc27 => ?_) (fun hc27 => ?_)))))))
      · -- c27.t
        obtain ⟨x, hx⟩ := getE (l := l) (i := i) (by omega)
        have hlt := ltE hx
        have hxb := hv x (List.mem_of_getElem? hx)
        have hgd : l.getD i 0 = x := by rw [List.getD_eq_getElem?_getD, hx]; rfl
        have hcc := coarse_cell (lat := decide (k.met = 3)) (fr := fr) (sz := sz) (by omega) (l := l) i
        rw [← ho] at hcc
        have hdi : (fr + i) / sz ≤ fr + i := Int.ediv_le_self sz (by omega)
        have hol := coarse_bd (lat := decide (k.met = 3)) (fr := fr) (sz := sz) (B := 1099511627776) (by omega) hv i
        rw [← ho] at hol
        have hole := coarse_le (lat := decide (k.met = 3)) (fr := fr) (sz := sz) (l := l) i
        rw [← ho] at hole
        refine w_skip (st_tn (w_seq (w_block (w_seq (w_region (zm rfl (zd rfl (op_idx rfl rfl tS25d (Sl.ent (by first | exact Sl.app (by assumption) _ | exact Sl.app (Sl.app (by assumption) _) _)) (by omega)) ?_)))))))
        refine zd rfl (op_ldx rfl tO3d (by first | exact Sl.app (by assumption) _ | exact Sl.app (Sl.app (by assumption) _) _) (by assumption) (by rfl)) ?_
        refine za rfl (za rfl (wl_nil (st_tn (w_seq ?_))))
        refine w_draw (D := [⟨31, [], [], [], _, false, [], []⟩, ⟨32, [0], [], [], _, false, [], []⟩, ⟨33, [], [], [], _, false, [], []⟩, ⟨34, [1, 2], [], [], _, false, [], []⟩, ⟨35, [], [], [], _, false, [], []⟩, ⟨36, [3, 4], [], [], _, false, [], []⟩, ⟨37, [], [], [], _, false, [], []⟩, ⟨38, [6], [], [], _, false, [], []⟩]) [] [2, 7, 1, 6] [⟨31, [], [], false, [], []⟩, ⟨32, [0], [], false, [], []⟩, ⟨33, [], [], false, [], []⟩, ⟨34, [1, 2], [], false, [], []⟩, ⟨35, [], [], false, [], []⟩, ⟨36, [3, 4], [], false, [], []⟩, ⟨37, [], [], false, [], []⟩, ⟨38, [6], [], false, [], []⟩] tMixd (by rfl) (by kernel_rfl) (by rfl) (by rfl)
            ⟨.plain rfl (by intro X; exact op_fieldAddr (off := 5) rfl tF48_4d),
            ⟨.plain rfl (by intro X; rintro _ _ ⟨rfl, rfl⟩; exact op_load1 rfl tO3d (Ent.lab (l := 2) rfl (says_cel 5))),
            ⟨.plain rfl (by intro X; exact op_move rfl),
            ⟨.plain rfl (by intro X; rintro _ _ ⟨rfl, rfl⟩ _ _ ⟨rfl, rfl⟩; exact op_add' rfl rfl (by omega)),
            ⟨.plain rfl (by intro X; exact op_move rfl),
            ⟨.plain rfl (by intro X; rintro _ _ ⟨rfl, rfl⟩ _ _ ⟨rfl, rfl⟩; exact op_quoN rfl rfl (by omega) (by omega) (by omega)),
            ⟨.plain rfl (by intro X; exact op_fieldAddr (off := 5) rfl tF48_4d),
            ⟨.plain rfl (by intro X; rintro _ _ ⟨rfl, rfl⟩; exact op_load1 rfl tO3d (Ent.lab (l := 6) rfl (says_cel 5))),
            trivial⟩⟩⟩⟩⟩⟩⟩⟩ ?_
        rintro _ _ ⟨rfl, rfl⟩ _ _ ⟨rfl, rfl⟩ _ _ ⟨rfl, rfl⟩ _ _ ⟨rfl, rfl⟩ _ _ ⟨rfl, rfl⟩ _ _ ⟨rfl, rfl⟩ _ _ ⟨rfl, rfl⟩ _ _ ⟨rfl, rfl⟩
        refine wl_norm (e' := [(1, _), (2, _), (4, _), (6, _), (8, _), (24, _), (25, _), (26, _), (36, _), (38, _)]) (.cons rfl (.cons rfl (.cons rfl (.cons rfl (.cons rfl (.cons rfl (.cons rfl (.cons rfl (.cons rfl (.cons rfl (.nil _))))))))))) (by dsimp only [cond_false, cond_true, List.nil_append, List.cons_append]) ?_
        refine zd rfl (op_sub' rfl rfl (by omega)) ?_
        refine za rfl (wl_nil (st_tn (w_block (w_seq (w_region (zm rfl (zd rfl (op_fieldAddr (off := 6) rfl tF48_5d) (zd rfl (op_load1 rfl tO25d (Ent.lab (l := 6) rfl (says_cel 6))) (zd rfl (op_lenT rfl tS25d (Sl.ent (Sl.lab 96 rfl (by unfold maxLen; omega)))) ?_)))))))))
        refine zd rfl (op_eql rfl rfl) (za rfl (wl_nil (st_tn (w_cond_d rfl (fun hc48 => ?_) (fun hc48 => ?_)))))
        · -- c48.t
          have hstep : out ++ [x] = cstep (decide (k.met = 3)) out ((fr + i) / sz - fr / sz).toNat x := by unfold cstep; rw [if_pos (by omega)]
          refine w_region (zd rfl (op_fieldAddr (off := 6) rfl tF48_5d) (zd rfl (op_load1 rfl tO25d (Ent.lab (l := 6) rfl (says_cel 6))) (zm rfl (wl_op [] rfl rfl rfl rfl (op_buildSlice (enc := SL.encZ) (l := [_]) (lab := 57) tL25_1d rfl rfl (fun _ => rfl) rfl) ?_))))
          rintro _ _ ⟨a57, c57, rfl, rfl⟩
          refine wl_op [96] rfl rfl rfl rfl (op_append (lab := 96) (lab' := 58) rfl rfl tP25d SL.enc1Z (Sl.lab 57 rfl (by simp [maxLen])) (by first | omega | (simp; done) | (simp; omega) | (simp [*]; omega)) (by first | omega | (simp; done) | (simp; omega) | (simp [*]; omega))) ?_
          rintro _ _ ⟨a58, c58, rfl, rfl⟩
          refine zd rfl (op_fieldAddr (off := 6) rfl tF48_5d) (wl_op0 [6] rfl rfl rfl (op_store rfl rfl tZ25d (by rfl) (by rfl) (by exact Nat.le_of_ble_eq_true rfl)) ?_)
          rintro _ _ ⟨rfl, rfl⟩
          refine wl_nil (st_bn (st_bn (st_tn (w_region (zd rfl (op_add' rfl rfl (by omega)) ?_)))))
          refine zm rfl (wl_nil ?_)
          refine st_roundQ (x := (i, out, a_out, c_out)) ((i + 1, _, _, _)) [58, 6, 2, 4] rfl (rfl) (.cons rfl (.nil _)) (.cons rfl (.cons rfl (.cons rfl (.cons rfl (.cons rfl (.cons rfl (.nil _))))))) (by
              try dsimp only
              refine ⟨by omega, ?_⟩
              unfold coarseN
              rw [← ho, hgd]
              exact hstep) (by
              try dsimp only
              omega)
        · -- c48.f
          obtain ⟨y, hy⟩ := getE (l := out) (i := ((fr + i) / sz - fr / sz).toNat) (by omega)
          have hyb := hol y (List.mem_of_getElem? hy)
          have hyd : out.getD ((fr + i) / sz - fr / sz).toNat 0 = y := by rw [List.getD_eq_getElem?_getD, hy]; rfl
          refine w_seq (w_region (zd rfl (op_fieldAddr (off := 2) rfl tF48_2d) (zd rfl (op_load1 rfl tO3d (Ent.lab (l := 2) rfl (says_cel 2))) (zd rfl (op_eql rfl rfl) (za rfl (wl_nil (st_tn (w_cond_d rfl (fun hc60 => ?_) (fun hc60 => ?_)))))))))
          · -- c60.t
            have hstep : out.set ((fr + i) / sz - fr / sz).toNat (max y x) = cstep (decide (k.met = 3)) out ((fr + i) / sz - fr / sz).toNat x := by unfold cstep; rw [if_neg (by omega), hyd, decide_eq_true hc60, if_pos rfl]
            refine w_draw (D := [⟨64, [], [], [], _, false, [], []⟩, ⟨65, [0], [], [], _, false, [], []⟩, ⟨66, [], [], [], _, false, [], []⟩, ⟨67, [], [], [], _, false, [], []⟩, ⟨68, [3], [], [], _, false, [], []⟩, ⟨69, [], [], [], _, false, [], []⟩, ⟨70, [4, 5], [], [], _, false, [], []⟩, ⟨71, [6], [], [], _, false, [], []⟩, ⟨72, [], [], [], _, false, [], []⟩, ⟨73, [7, 8], [], [], _, false, [], []⟩]) [] [6, 9, 8] [⟨64, [], [], false, [], []⟩, ⟨65, [0], [], false, [], []⟩, ⟨66, [], [], false, [], []⟩, ⟨67, [], [], false, [], []⟩, ⟨68, [3], [], false, [], []⟩, ⟨69, [], [], false, [], []⟩, ⟨70, [4, 5], [], false, [], []⟩, ⟨71, [6], [], false, [], []⟩, ⟨72, [], [], false, [], []⟩, ⟨73, [7, 8], [], false, [], []⟩] tMixd (by rfl) (by kernel_rfl) (by rfl) (by rfl)
                ⟨.plain rfl (by intro X; exact op_fieldAddr (off := 6) rfl tF48_5d),
                ⟨.plain rfl (by intro X; rintro _ _ ⟨rfl, rfl⟩; exact op_load1 rfl tO25d (Ent.lab (l := 6) rfl (says_cel 6))),
                ⟨.plain rfl (by intro X; exact op_move rfl),
                ⟨.plain rfl (by intro X; exact op_fieldAddr (off := 6) rfl tF48_5d),
                ⟨.plain rfl (by intro X; rintro _ _ ⟨rfl, rfl⟩; exact op_load1 rfl tO25d (Ent.lab (l := 6) rfl (says_cel 6))),
                ⟨.plain rfl (by intro X; exact op_move rfl),
                ⟨.plain rfl (by intro X; rintro _ _ ⟨rfl, rfl⟩ _ _ ⟨rfl, rfl⟩; exact op_idxZ rfl rfl tS25d (Sl.ent (Sl.lab 96 rfl (by unfold maxLen; omega))) (by omega) (by omega)),
                ⟨.plain rfl (by intro X; rintro _ _ ⟨rfl, rfl⟩; exact op_ldx rfl tO3d (Sl.lab 96 rfl (by unfold maxLen; omega)) (by assumption) (by rfl)),
                ⟨.plain rfl (by intro X; exact op_move rfl),
                ⟨.plain rfl (by intro X; rintro _ _ ⟨rfl, rfl⟩ _ _ ⟨rfl, rfl⟩; exact op_max rfl rfl),
                trivial⟩⟩⟩⟩⟩⟩⟩⟩⟩⟩ ?_
            rintro _ _ ⟨rfl, rfl⟩ _ _ ⟨rfl, rfl⟩ _ _ ⟨rfl, rfl⟩ _ _ ⟨rfl, rfl⟩ _ _ ⟨rfl, rfl⟩ _ _ ⟨rfl, rfl⟩ _ _ ⟨rfl, rfl⟩ _ _ ⟨rfl, rfl⟩ _ _ ⟨rfl, rfl⟩ _ _ ⟨rfl, rfl⟩
            refine wl_norm (e' := [(1, _), (2, _), (4, _), (6, _), (24, _), (25, _), (26, _), (65, _), (66, _), (73, _)]) (.cons rfl (.cons rfl (.cons rfl (.cons rfl (.cons rfl (.cons rfl (.cons rfl (.cons rfl (.cons rfl (.cons rfl (.nil _))))))))))) (by dsimp only [cond_false, cond_true, List.nil_append, List.cons_append]) ?_
            refine zd rfl (op_idxZ rfl rfl tS25d (Sl.ent (Sl.lab 96 rfl (by unfold maxLen; omega))) (by omega) (by omega)) ?_
            refine wl_op0 [96] rfl rfl rfl (op_storeX (lab := 96) (j := 0) (b' := max y x) rfl rfl tO3d rfl rfl rfl hy (by decide) rfl) ?_
            rintro _ _ ⟨rfl, rfl⟩
            refine wl_nil (st_bn (st_bn (st_tn (w_region (zd rfl (op_add' rfl rfl (by omega)) ?_)))))
            refine zm rfl (wl_nil ?_)
            refine st_roundQ (x := (i, out, a_out, c_out)) ((i + 1, out.set ((fr + i) / sz - fr / sz).toNat (max y x), a_out, c_out)) [96, 6, 2, 4] rfl (by simp only [List.length_set]; rfl) (.cons rfl (.nil _)) (.cons rfl (.cons rfl (.cons rfl (.cons rfl (.cons rfl (.cons rfl (.nil _))))))) (by
                try dsimp only
                refine ⟨by omega, ?_⟩
                unfold coarseN
                rw [← ho, hgd]
                exact hstep) (by
                try dsimp only
                omega)
          · -- c60.f
            have hstep : out.set ((fr + i) / sz - fr / sz).toNat (y + x) = cstep (decide (k.met = 3)) out ((fr + i) / sz - fr / sz).toNat x := by unfold cstep; rw [if_neg (by omega), hyd, decide_eq_false hc60]; simp
            refine w_region (zd rfl (op_fieldAddr (off := 6) rfl tF48_5d) (zd rfl (op_load1 rfl tO25d (Ent.lab (l := 6) rfl (says_cel 6))) (zm rfl (zd rfl (op_idxZ rfl rfl tS25d (Sl.ent (Sl.lab 96 rfl (by unfold maxLen; omega))) (by omega) (by omega)) ?_))))
            refine zd rfl (op_ldx rfl tO3d (Sl.lab 96 rfl (by unfold maxLen; omega)) (by assumption) (by rfl)) ?_
            refine zm rfl (zd rfl (op_add' rfl rfl (by omega)) ?_)
            refine zd rfl (op_idxZ rfl rfl tS25d (Sl.ent (Sl.lab 96 rfl (by unfold maxLen; omega))) (by omega) (by omega)) ?_
            refine wl_op0 [96] rfl rfl rfl (op_storeX (lab := 96) (j := 0) (b' := y + x) rfl rfl tO3d rfl rfl rfl hy (by decide) rfl) ?_
            rintro _ _ ⟨rfl, rfl⟩
            refine wl_nil (st_bn (st_bn (st_tn (w_region (zd rfl (op_add' rfl rfl (by omega)) ?_)))))
            refine zm rfl (wl_nil ?_)
            refine st_roundQ (x := (i, out, a_out, c_out)) ((i + 1, out.set ((fr + i) / sz - fr / sz).toNat (y + x), a_out, c_out)) [96, 6, 2, 4] rfl (by simp only [List.length_set]; rfl) (.cons rfl (.nil _)) (.cons rfl (.cons rfl (.cons rfl (.cons rfl (.cons rfl (.cons rfl (.nil _))))))) (by
                try dsimp only
                refine ⟨by omega, ?_⟩
                unfold coarseN
                rw [← ho, hgd]
                exact hstep) (by
                try dsimp only
                omega)
      · -- c27.f
        obtain rfl : i = l.length := by omega
        have hlen : out.length ≤ l.length := by rw [ho]; exact coarse_le _
        refine w_exit (st_te ?_)
        refine st_te ?_
        refine st_be (st_tn (w_seq (w_seq (w_region (zd rfl (op_fieldAddr (off := 6) rfl tF48_5d) (zd rfl (op_load1 rfl tO25d (Ent.lab (l := 6) rfl (says_cel 6))) (zd rfl (op_fn Try.func57 rfl rfl rfl (containsFuncI (fs := []) (cs := []) (p := fun x => decide (x > 1099511627776)) (Sl.lab 96 rfl (by unfold maxLen; omega)) Try.func58 rfl rfl (fun X r => big_any r))) ?_)))))))
        refine wl_nil (st_tn (w_cond rfl (fun hc78 => ?_) (fun hc78 => ?_)))
        · -- c78.t
          refine w_emp 77 (slO_nil 3 1) ?_
          refine w_seq (w_region (zd rfl (op_build tB48d rfl rfl) (wl_op0 [4] rfl rfl rfl (op_store rfl rfl tZ48d (by rfl) (by rfl) (by exact Nat.le_of_ble_eq_true rfl)) ?_)))
          rintro _ _ ⟨rfl, rfl⟩
          refine za rfl (wl_nil (st_tn (w_ret (st_tr (st_ret (vs := [_, _]) [77] Try.results24 ⟨⟨_, rfl, Ent.mono (Ent.lab (l := 4) rfl (says_cel 0)) (fun _ h => run_load_agg tA48d h (Nat.le_of_ble_eq_true rfl))⟩, ⟨rfl, trivial⟩⟩ rfl ?_)))))
          refine ⟨[(lab, _)], rfl, ?_⟩
          rw [ho] at hc78; unfold coarsenR; rw [if_neg hc15, if_pos hc78]; exact ⟨none, 0, rfl, rfl⟩
        · -- c78.f
          refine w_skip (st_tn (w_seq (w_region (zd rfl (op_loadA rfl tA48d (Ent.lab (l := 6) rfl (says_cel 0)) (Nat.le_of_ble_eq_true rfl)) (wl_op0 [4] rfl rfl rfl (op_store rfl rfl tZ48d (by rfl) (by rfl) (by exact Nat.le_of_ble_eq_true rfl)) ?_)))))
          rintro _ _ ⟨rfl, rfl⟩
          refine za rfl (wl_nil (st_tn (w_ret (st_ret (vs := [_, _]) [96] Try.results24 ⟨⟨_, rfl, Ent.mono (Ent.lab (l := 4) rfl (says_cel 0)) (fun _ h => run_load_agg tA48d h (Nat.le_of_ble_eq_true rfl))⟩, ⟨rfl, trivial⟩⟩ rfl ?_))))
          refine ⟨[(lab, _)], rfl, ?_⟩
          rw [ho] at hc78; unfold coarsenR; rw [if_neg hc15, if_neg (by rw [hc78]; simp), ← ho]; exact ⟨_, _, rfl, rfl⟩
def movN (l : List Int) (w : Int) : Nat → Int
  | 0 => 0
  | i + 1 => movN l w i + l.getD i 0 - (if (i : Int) ≥ w then l.getD (i - w).toNat 0 else 0)
def movL (l : List Int) (w : Int) (n : Nat) : List Int := (List.range n).map fun i => movN l w (i + 1)
theorem movL_succ (l : List Int) (w : Int) (n : Nat) : movL l w (n + 1) = movL l w n ++ [movN l w (n + 1)] := by unfold movL; rw [List.range_succ, List.map_append]; rfl
theorem mov_bd {l : List Int} {w B : Int} (hB : 0 ≤ B) (hv : ∀ x ∈ l, 0 ≤ x ∧ x ≤ B) : ∀ i : Nat, -(i * B) ≤ movN l w i ∧ movN l w i ≤ i * B
  | 0 => by simp [movN]
  | i + 1 => by
    have ih := mov_bd (w := w) hB hv i
    have hg : ∀ j : Nat, 0 ≤ l.getD j 0 ∧ l.getD j 0 ≤ B := fun j => by
      rw [List.getD_eq_getElem?_getD]
      cases hx : l[j]? with
      | none => simp; omega
      | some y => exact hv y (List.mem_of_getElem? hx)
    have h1 := hg i
    have h2 := hg (i - w).toNat
    have hmul : ((i + 1 : Nat) : Int) * B = i * B + B := by rw [Int.natCast_add, Int.add_mul]; simp
    rw [hmul]
    unfold movN
    split <;> omega
def movE (k : SK) (w : Int) : Int := if w < 1 ∨ w > 1024 then 2 else if k.met = 3 then 12 else 0
set_option maxHeartbeats 2000000 in
set_option maxRecDepth 100000 in
theorem moving_any {σ : World} {F : List Res} {a : Option Addr} {c : Nat} {l : List Int} (lab : Nat) (k : SK) (fr w : Int) (h : Sl σ F encZ 1 (.slice a l.length c) l) (hl : l.length ≤ 1048576) (hv : ∀ x ∈ l, 0 ≤ x ∧ x ≤ 1099511627776) :
    FnT Try.prog σ F 25 [sr k fr (.slice a l.length c), .int .i64 w] [] (fun u ρ => ∃ m a c, m = (if movE k w = 0 then movL l w l.length else []) ∧ u = .tuple #[.slice a m.length c, .int .i64 (movE k w)] ∧ ρ = [(lab, slW 3 encZ 1 (.slice a m.length c) m)]) := by
  refine fn_of 50 Try.func25 rfl Try.ntmps25 rfl ?_
  have hle := h.i64
  refine w_seq (w_region (wl_op [] rfl rfl rfl rfl (op_box (T := 48) (l := 2) rfl) ?_))
  rintro _ _ ⟨b2, rfl, rfl⟩
  refine za rfl (za rfl (wl_nil (st_tn (w_seq (w_block (w_seq (w_cutL [(10, .bool (decide (w < 1 ∨ w > 1024)))] [1, 2] [2] rfl (fun K' hK => ?_) ?_)))))))
  · -- cut r1
    refine w_region (zm rfl (zd rfl (op_lss rfl rfl) (zm rfl (wl_gsplit (t := 13) rfl (fun hg13 => ?_) (fun hg13 => ?_)))))
    · -- 13 is True
      refine wl_unwanted rfl rfl rfl rfl rfl rfl rfl rfl (wl_unwanted rfl rfl rfl rfl rfl rfl rfl rfl (zd rfl (op_pick_t rfl rfl) (za rfl (wl_nil (st_tn ?_)))))
      exact cut_done1 [2] hK rfl (by first | (rw [decide_eq_decide]; omega) | (symm; rw [decide_eq_false_iff_not]; omega) | (symm; rw [decide_eq_true_iff]; omega) | (simp; done) | (simp; omega) | (simp [*]; done) | (simp [*]; omega)) (by rfl) rfl rfl
    · -- 13 is False
      refine wl_wanted_det rfl rfl rfl rfl rfl rfl rfl (op_move rfl) (wl_wanted_det rfl rfl rfl rfl rfl rfl rfl (op_gtr rfl rfl) (zd rfl (op_pick_f rfl rfl) (za rfl (wl_nil (st_tn ?_)))))
      exact cut_done1 [2] hK rfl (by first | (rw [decide_eq_decide]; omega) | (symm; rw [decide_eq_false_iff_not]; omega) | (symm; rw [decide_eq_true_iff]; omega) | (simp; done) | (simp; omega) | (simp [*]; done) | (simp [*]; omega)) (by rfl) rfl rfl
  · -- behind r1
    show W _ _ _ _ _ [(10, _), (1, _), (2, _)] [(2, _)] _
    refine w_cond_d rfl (fun hc10 => ?_) (fun hc10 => ?_)
    · -- c10.t
      refine w_seq (w_emp 77 (slO_nil 3 1) ?_)
      refine w_region (za rfl (za rfl (wl_nil (st_tn (w_ret (st_br (st_tr (st_ret (vs := [_, _]) [77] Try.results25 ⟨rfl, ⟨rfl, trivial⟩⟩ rfl ?_))))))))
      refine ⟨[(lab, _)], rfl, ?_⟩
      have he : movE k w = 2 := by unfold movE; rw [if_pos hc10]
      exact ⟨[], none, 0, by rw [he]; rfl, by rw [he]; rfl, rfl⟩
    · -- c10.f
      refine w_seq (w_region (zd rfl (op_fieldAddr (off := 2) rfl tF48_2d) (zd rfl (op_load1 rfl tO3d (Ent.lab (l := 2) rfl (says_cel 2))) (zd rfl (op_eql rfl rfl) (za rfl (wl_nil (st_tn (w_cond_d rfl (fun hc17 => ?_) (fun hc17 => ?_)))))))))
      · -- c17.t
        refine w_seq (w_emp 77 (slO_nil 3 1) ?_)
        refine w_region (za rfl (za rfl (wl_nil (st_tn (w_ret (st_br (st_tr (st_ret (vs := [_, _]) [77] Try.results25 ⟨rfl, ⟨rfl, trivial⟩⟩ rfl ?_))))))))
        refine ⟨[(lab, _)], rfl, ?_⟩
        have he : movE k w = 12 := by unfold movE; rw [if_neg hc10, if_pos hc17]
        exact ⟨[], none, 0, by rw [he]; rfl, by rw [he]; rfl, rfl⟩
      · -- c17.f
        refine w_skip (st_bn (st_tn (w_seq (w_region (za rfl (wl_nil (st_tn (w_seq (w_region (za rfl (wl_nil (st_tn (w_seq ?_)))))))))))))
        refine w_seq (w_region (zd rfl (op_fieldAddr (off := 6) rfl tF48_5d) (zd rfl (op_load1 rfl tO25d (Ent.lab (l := 2) rfl (says_cel 6))) (zd rfl (op_lenT rfl tS25d (Sl.ent (by first | exact Sl.app (by assumption) _ | exact Sl.app (Sl.app (by assumption) _) _))) ?_))))
        refine zm rfl (wl_nil (st_tn (w_block (w_emp 6 (slO_nil 3 1) ?_))))
        refine w_loopQ (X := Nat × Int × List Int × Option Addr × Nat) (fun z => z.1 ≤ l.length ∧ z.2.1 = movN l w z.1 ∧ z.2.2.1 = movL l w z.1) (fun z => [(24, .int .i64 (z.1)), (7, .int .i64 (z.2.1)), (6, .slice (z.2.2.2.1) (z.2.2.1).length (z.2.2.2.2))]) (fun z => [(6, slW 3 SL.encZ 1 (.slice (z.2.2.2.1) (z.2.2.1).length (z.2.2.2.2)) (z.2.2.1))]) (fun z => l.length - z.1) ((0, _, [], none, 0)) [(1, _), (2, _), (22, _), (23, _)] [(2, _)] [6, 2] rfl (rfl) (.cons rfl (.cons rfl (.cons rfl (.nil _)))) (.cons rfl (.cons rfl (.cons rfl (.cons rfl (.nil _))))) (by
            try dsimp only
            exact ⟨Nat.zero_le _, rfl, rfl⟩) ?_
        rintro ⟨i, sum, out, a_out, c_out⟩ ⟨hi, hs, ho⟩
        refine w_norm2 (by dsimp only [List.cons_append, List.nil_append]) (by dsimp only [List.cons_append, List.nil_append]) ?_
        try dsimp only at hi hs ho ⊢
        refine w_seq (w_region (zd rfl (op_lss rfl rfl) (wl_nil (st_tn (w_seq (w_cond_d rfl (fun hc25 => ?_) (fun hc25 => ?_)))))))
        · -- c25.t
          obtain ⟨x, hx⟩ := getE (l := l) (i := i) (by omega)
          have hlt := ltE hx
          have hxb := hv x (List.mem_of_getElem? hx)
          have hgd : l.getD i 0 = x := by rw [List.getD_eq_getElem?_getD, hx]; rfl
          have hsb := mov_bd (w := w) (B := 1099511627776) (by omega) hv i
          rw [← hs] at hsb
          have hol : out.length = i := by rw [ho]; unfold movL; simp
          refine w_skip (st_tn (w_seq (w_block (w_seq (w_region (zm rfl (zd rfl (op_idx rfl rfl tS25d (Sl.ent (by first | exact Sl.app (by assumption) _ | exact Sl.app (Sl.app (by assumption) _) _)) (by omega)) ?_)))))))
          refine zd rfl (op_ldx rfl tO3d (by first | exact Sl.app (by assumption) _ | exact Sl.app (Sl.app (by assumption) _) _) (by assumption) (by rfl)) ?_
          refine za rfl (za rfl (wl_nil (st_tn (w_seq (w_region (zm rfl (zm rfl (zd rfl (op_add' rfl rfl (by omega)) ?_))))))))
          refine za rfl (wl_nil (st_tn (w_seq (w_seq (w_region (zm rfl (zm rfl (zd rfl (op_geq rfl rfl) (wl_nil (st_tn (w_cond_d rfl (fun hc34 => ?_) (fun hc34 => ?_))))))))))))
          · -- c34.t
            obtain ⟨y, hy⟩ := getE (l := l) (i := ((i : Int) - w).toNat) (by omega)
            have hyb := hv y (List.mem_of_getElem? hy)
            have hnew : sum + x - y = movN l w (i + 1) := by unfold movN; rw [if_pos hc34, ← hs, hgd, List.getD_eq_getElem?_getD, hy]; rfl
            refine w_region (zm rfl (zd rfl (op_fieldAddr (off := 6) rfl tF48_5d) (zd rfl (op_load1 rfl tO25d (Ent.lab (l := 2) rfl (says_cel 6))) (zm rfl (zm rfl (zd rfl (op_sub' rfl rfl (by omega)) ?_))))))
            refine zd rfl (op_idxZ rfl rfl tS25d (Sl.ent (by first | exact Sl.app (by assumption) _ | exact Sl.app (Sl.app (by assumption) _) _)) (by omega) (by omega)) ?_
            refine zd rfl (op_ldx rfl tO3d (by first | exact Sl.app (by assumption) _ | exact Sl.app (Sl.app (by assumption) _) _) (by assumption) (by rfl)) ?_
            refine zd rfl (op_sub' rfl rfl (by omega)) ?_
            refine za rfl (wl_nil (st_tn (w_region (zm rfl (zm rfl (wl_op [] rfl rfl rfl rfl (op_buildSlice (enc := SL.encZ) (l := [_]) (lab := 46) tL25_1d rfl rfl (fun _ => rfl) rfl) ?_))))))
            rintro _ _ ⟨a46, c46, rfl, rfl⟩
            refine wl_op [6] rfl rfl rfl rfl (op_append (lab := 6) (lab' := 47) rfl rfl tP25d SL.enc1Z (Sl.lab 46 rfl (by simp [maxLen])) (by first | omega | (simp; done) | (simp; omega) | (simp [*]; omega)) (by first | omega | (simp; done) | (simp; omega) | (simp [*]; omega))) ?_
            rintro _ _ ⟨a47, c47, rfl, rfl⟩
            refine za rfl (wl_nil (st_bn (st_tn (w_region (zd rfl (op_add' rfl rfl (by omega)) ?_)))))
            refine zm rfl (wl_nil ?_)
            refine st_roundQ (x := (i, sum, out, a_out, c_out)) ((i + 1, _, _, _, _)) [47, 2] rfl (rfl) (.cons rfl (.cons rfl (.cons rfl (.nil _)))) (.cons rfl (.cons rfl (.cons rfl (.cons rfl (.nil _))))) (by
                try dsimp only
                refine ⟨by omega, ?_, ?_⟩
                · exact hnew
                · rw [movL_succ, ← ho, ← hnew]) (by
                try dsimp only
                omega)
          · -- c34.f
            have hnew : sum + x = movN l w (i + 1) := by unfold movN; rw [if_neg hc34, ← hs, hgd]; omega
            refine w_skip (st_tn (w_region (zm rfl (zm rfl (wl_op [] rfl rfl rfl rfl (op_buildSlice (enc := SL.encZ) (l := [_]) (lab := 46) tL25_1d rfl rfl (fun _ => rfl) rfl) ?_)))))
            rintro _ _ ⟨a46, c46, rfl, rfl⟩
            refine wl_op [6] rfl rfl rfl rfl (op_append (lab := 6) (lab' := 47) rfl rfl tP25d SL.enc1Z (Sl.lab 46 rfl (by simp [maxLen])) (by first | omega | (simp; done) | (simp; omega) | (simp [*]; omega)) (by first | omega | (simp; done) | (simp; omega) | (simp [*]; omega))) ?_
            rintro _ _ ⟨a47, c47, rfl, rfl⟩
            refine za rfl (wl_nil (st_bn (st_tn (w_region (zd rfl (op_add' rfl rfl (by omega)) ?_)))))
            refine zm rfl (wl_nil ?_)
            refine st_roundQ (x := (i, sum, out, a_out, c_out)) ((i + 1, _, _, _, _)) [47, 2] rfl (rfl) (.cons rfl (.cons rfl (.cons rfl (.nil _)))) (.cons rfl (.cons rfl (.cons rfl (.cons rfl (.nil _))))) (by
                try dsimp only
                refine ⟨by omega, ?_, ?_⟩
                · exact hnew
                · rw [movL_succ, ← ho, ← hnew]) (by
                try dsimp only
                omega)
        · -- c25.f
          refine w_exit (st_te ?_)
          refine st_te ?_
          refine st_be (st_tn (w_seq (w_region (zm rfl (za rfl (za rfl (wl_nil (st_tn (w_ret (st_ret (vs := [_, _]) [6] Try.results25 ⟨rfl, ⟨rfl, trivial⟩⟩ rfl ?_))))))))))
          refine ⟨[(lab, _)], rfl, ?_⟩
          obtain rfl : i = l.length := by omega
          have he : movE k w = 0 := by unfold movE; rw [if_neg hc10, if_neg hc17]
          exact ⟨out, _, _, by rw [he, if_pos rfl, ho], by rw [he]; rfl, rfl⟩
set_option maxHeartbeats 400000 in
set_option maxRecDepth 100000 in
theorem quantile_any {σ : World} {F : List Res} {a : Option Addr} {c : Nat} {l : List Int} (x y : Int) (h : Sl σ F encZ 1 (.slice a l.length c) l) (hl : l.length ≤ 1099511627776) (hx : -9223372036854775808 ≤ x ∧ x ≤ 9223372036854775807) (hy : -9223372036854775808 ≤ y ∧ y ≤ 9223372036854775807) :
    FnT Try.prog σ F 15 [.slice a l.length c, frac x y] [] (fun u ρ => u = .tuple #[.int .i64 (if goodB x y then quantZ l x y else 0), .int .i64 (if goodB x y then 0 else 3)] ∧ ρ = []) := by
  refine fn_of 12 Try.func15 rfl Try.ntmps15 rfl ?_
  refine w_seq (w_region (wl_op [] rfl rfl rfl rfl (op_box (T := 24) (l := 3) rfl) ?_))
  rintro _ _ ⟨b3, rfl, rfl⟩
  refine za rfl (za rfl (wl_nil (st_tn (w_seq (w_seq (w_region (zd rfl (op_loadA rfl tA24d (Ent.lab (l := 3) rfl (says_cel 0)) (Nat.le_of_ble_eq_true rfl)) (zd rfl (op_fn Try.func46 rfl rfl rfl (squant_any _ _ (by omega) (by omega))) ?_))))))))
  refine zd rfl (op_not_d rfl) (wl_nil (st_tn (w_cond_d rfl (fun hc8 => ?_) (fun hc8 => ?_))))
  · -- c8.t
    refine w_seq (w_region (za rfl (za rfl (wl_nil (st_tn (w_ret (st_tr (st_ret (vs := [_, _]) [] Try.results15 ⟨rfl, ⟨rfl, trivial⟩⟩ rfl ?_))))))))
    refine ⟨_, rfl, ?_⟩
    rw [if_neg hc8, if_neg hc8]; exact ⟨rfl, rfl⟩
  · -- c8.f
    refine w_skip (st_tn (w_seq (w_region (zm rfl (zd rfl (op_loadA rfl tA24d (Ent.lab (l := 3) rfl (says_cel 0)) (Nat.le_of_ble_eq_true rfl)) (zd rfl (op_fn Try.func47 rfl rfl rfl (rank_any x y (Sl.app h _) hl (Classical.byContradiction hc8))) (za rfl (za rfl (wl_nil (st_tn (w_ret (st_ret (vs := [_, _]) [] Try.results15 ⟨rfl, ⟨rfl, trivial⟩⟩ rfl ?_))))))))))))
    refine ⟨_, rfl, ?_⟩
    have hg : goodB x y := Classical.byContradiction hc8
    rw [if_pos hg, if_pos hg]; exact ⟨rfl, rfl⟩
end Go.Proofs.Ytbgddblfalahfaa
namespace Go.Proofs.Ytbgddblfalahfaa
open Go Go.SL Go.RowKit
set_option linter.unusedVariables false
set_option linter.unusedSimpArgs false
theorem tA48e : aggB Try.prog 48 7 = true := by kernel_rfl
theorem tB24e : placesB Try.prog 24 = some ([(0, 1), (1, 1)], [Value.int .i64 0, Value.int .i64 0]) := by kernel_rfl
theorem tB48e : placesB Try.prog 48 = some ([(0, 1), (1, 1), (2, 1), (3, 2), (5, 1), (6, 1)], [Value.string .empty, Value.string .empty, Value.int .i64 0, Value.int .i64 0, Value.int .i64 0, Value.int .i64 0, Value.slice none 0 0]) := by kernel_rfl
theorem tF48_4e : fieldB Try.prog 48 4 5 = true := by kernel_rfl
theorem tF48_5e : fieldB Try.prog 48 5 6 = true := by kernel_rfl
theorem tL25_2e : zerosB Try.prog 25 3 1 2 = some [Value.int .i64 0, Value.int .i64 0] := by kernel_rfl
theorem tL25_3e : zerosB Try.prog 25 3 1 3 = some [Value.int .i64 0, Value.int .i64 0, Value.int .i64 0] := by kernel_rfl
theorem tN48e : (Try.prog.info? 48).bind (·.zero) = some (Value.agg #[Value.string .empty, Value.string .empty, Value.int .i64 0, Value.int .i64 0, Value.int .i64 0, Value.int .i64 0, Value.slice none 0 0]) := by kernel_rfl
theorem tO25e : oneB Try.prog 25 = true := by kernel_rfl
theorem tO3e : oneB Try.prog 3 = true := by kernel_rfl
theorem tZ48e : (Try.prog.info? 48).map (·.size) = some 7 := by kernel_rfl
def kApi : SK := ⟨⟨#[97, 112, 105]⟩, .empty, 1, 0, 0⟩
theorem coarse_known : coarsenR kApi 3 [1, 2, 4] 2 = ⟨kApi, 1, [1, 6], 0⟩ := by kernel_rfl
theorem mov_known : movL [1, 2, 4] 2 3 = [1, 3, 6] := by decide +kernel
theorem good_known : goodB 9 10 := by unfold goodB mkF; decide +kernel
theorem quant_known : quantZ [2, 9, 5] 9 10 = 9 := by
  have hr : rankOf ([2, 9, 5] : List Int).length 9 10 = 3 := by decide
  have hls := length_srt [2, 9, 5]
  obtain ⟨z, hz⟩ := getE (l := srt [2, 9, 5]) (i := (3 - 1 : Int).toNat) (by simp at hls ⊢; omega)
  have h9 := quant_unique (v := 9) (r := 3) (by omega) hz (by decide) (by decide)
  unfold quantZ
  rw [if_neg (by simp), hr, List.getD_eq_getElem?_getD, hz, ← h9]; rfl
set_option maxHeartbeats 2000000 in
set_option maxRecDepth 100000 in
theorem known_any {σ : World} {F : List Res} : FnT Try.prog σ F 16 [] [] (fun u ρ => u = .bool true ∧ ρ = []) := by
  refine fn_of 56 Try.func16 rfl Try.ntmps16 rfl ?_
  refine w_seq (w_region (za rfl (wl_nil (st_tn (w_seq (w_region (wl_op [] rfl rfl rfl rfl (op_buildSlice (enc := SL.encZ) (l := [_, _, _]) (lab := 9) tL25_3e rfl rfl (fun _ => rfl) rfl) ?_)))))))
  rintro _ _ ⟨a9, c9, rfl, rfl⟩
  refine zd rfl (op_build tB24e rfl rfl) (zd rfl (op_val (v' := .tuple #[.int .i64 9, .int .i64 0]) (by rw [if_pos good_known, if_pos good_known, quant_known]) (op_fn Try.func15 rfl rfl rfl (quantile_any (l := [2, 9, 5]) 9 10 (Sl.lab 9 rfl (by simp [maxLen])) (by simp) (by omega) (by omega)))) ?_)
  refine zm rfl (zd rfl (op_extract rfl rfl) (zd rfl (op_extract rfl rfl) (za rfl (za rfl (wl_nil (st_tn (w_seq (w_region (wl_op [] rfl rfl rfl rfl (op_buildSlice (enc := SL.encZ) (l := [_, _, _]) (lab := 14) tL25_3e rfl rfl (fun _ => rfl) rfl) ?_)))))))))
  rintro _ _ ⟨a14, c14, rfl, rfl⟩
  refine zd rfl (op_build tB48e rfl rfl) (wl_op [] rfl rfl rfl rfl (op_alloc (l := 3) tN48e) ?_)
  rintro _ _ ⟨b3, rfl, rfl⟩
  refine wl_op0 [3] rfl rfl rfl (op_store rfl rfl tZ48e (by rfl) (by rfl) (by exact Nat.le_of_ble_eq_true rfl)) ?_
  rintro _ _ ⟨rfl, rfl⟩
  refine wl_nil (st_tn (w_seq (w_region (zd rfl (op_loadA rfl tA48e (Ent.lab (l := 3) rfl (says_cel 0)) (Nat.le_of_ble_eq_true rfl)) (wl_op [] rfl rfl rfl rfl (op_fn Try.func24 rfl rfl rfl (show FnT Try.prog _ _ 24 [sr kApi 3 (.slice _ ([1, 2, 4] : List Int).length _), .int .i64 2] [] (SerV ⟨kApi, 1, [1, 6], 0⟩ 18) from coarse_known ▸ coarsen_any 18 kApi 3 2 (Sl.lab 14 rfl (by simp [maxLen])) (by simp) (by omega) (by simp))) ?_)))))
  rintro _ _ ⟨a18, c18, rfl, rfl⟩
  refine zm rfl (zd rfl (op_extract rfl rfl) (zd rfl (op_extract rfl rfl) (wl_op [] rfl rfl rfl rfl (op_alloc (l := 4) tN48e) ?_)))
  rintro _ _ ⟨b4, rfl, rfl⟩
  refine wl_op0 [4] rfl rfl rfl (op_store rfl rfl tZ48e (by rfl) (by rfl) (by exact Nat.le_of_ble_eq_true rfl)) ?_
  rintro _ _ ⟨rfl, rfl⟩
  refine za rfl (wl_nil (st_tn (w_seq (w_region (zd rfl (op_loadA rfl tA48e (Ent.lab (l := 3) rfl (says_cel 0)) (Nat.le_of_ble_eq_true rfl)) (wl_op [] rfl rfl rfl rfl (op_fn Try.func25 rfl rfl rfl (moving_any (l := [1, 2, 4]) 23 kApi 3 2 (Sl.lab 14 rfl (by simp [maxLen])) (by simp) (by simp))) ?_))))))
  rintro _ _ ⟨m23, a23, c23, hm23, rfl, rfl⟩
  obtain rfl : m23 = [1, 3, 6] := by rw [hm23, if_pos (by decide)]; exact mov_known
  refine zm rfl (zd rfl (op_extract rfl rfl) (zd rfl (op_extract rfl rfl) (za rfl (za rfl (wl_nil (st_tn (w_seq (w_region (zm rfl (zd rfl (op_eql rfl rfl) (zm rfl (wl_wanted_det rfl rfl rfl rfl rfl rfl rfl (op_move rfl) (wl_wanted_det rfl rfl rfl rfl rfl rfl rfl (op_eql rfl rfl) ?_)))))))))))))
  refine zd rfl (op_pick_t rfl rfl) (zm rfl (wl_wanted_det rfl rfl rfl rfl rfl rfl rfl (op_move rfl) (wl_wanted_det rfl rfl rfl rfl rfl rfl rfl (op_eql rfl rfl) (zd rfl (op_pick_t rfl rfl) (zm rfl (wl_wanted_det rfl rfl rfl rfl rfl rfl rfl (op_fieldAddr (off := 5) rfl tF48_4e) (wl_wanted_det rfl rfl rfl rfl rfl rfl rfl (op_load1 rfl tO3e (Ent.lab (l := 4) rfl (says_cel 5))) (wl_wanted_det rfl rfl rfl rfl rfl rfl rfl (op_eql rfl rfl) (zd rfl (op_pick_t rfl rfl) (zm rfl (wl_wanted_det rfl rfl rfl rfl rfl rfl rfl (op_fieldAddr (off := 6) rfl tF48_5e) (wl_wanted_det rfl rfl rfl rfl rfl rfl rfl (op_load1 rfl tO25e (Ent.lab (l := 4) rfl (says_cel 6))) (wl_wanted [] rfl rfl rfl rfl rfl rfl rfl rfl (op_buildSlice (enc := SL.encZ) (l := [_, _]) (lab := 44) tL25_2e rfl rfl (fun _ => rfl) rfl) ?_)))))))))))))
  rintro _ _ ⟨a44, c44, rfl, rfl⟩
  refine wl_wanted_det rfl rfl rfl rfl rfl rfl rfl (op_val (v' := .bool true) (by rfl) (op_fn Try.func22 rfl rfl rfl (ints_any (Sl.lab 18 rfl (by simp [maxLen])) (Sl.lab 44 rfl (by simp [maxLen]))))) ?_
  refine zd rfl (op_pick_t rfl rfl) (zm rfl (wl_wanted_det rfl rfl rfl rfl rfl rfl rfl (op_move rfl) (wl_wanted_det rfl rfl rfl rfl rfl rfl rfl (op_eql rfl rfl) (zd rfl (op_pick_t rfl rfl) (zm rfl (wl_wanted_det rfl rfl rfl rfl rfl rfl rfl (op_move rfl) (wl_wanted [] rfl rfl rfl rfl rfl rfl rfl rfl (op_buildSlice (enc := SL.encZ) (l := [_, _, _]) (lab := 53) tL25_3e rfl rfl (fun _ => rfl) rfl) ?_)))))))
  rintro _ _ ⟨a53, c53, rfl, rfl⟩
  refine wl_wanted_det rfl rfl rfl rfl rfl rfl rfl (op_val (v' := .bool true) (by rfl) (op_fn Try.func22 rfl rfl rfl (ints_any (Sl.lab 23 rfl (by simp [maxLen])) (Sl.lab 53 rfl (by simp [maxLen]))))) ?_
  refine zd rfl (op_pick_t rfl rfl) (za rfl (wl_nil (st_tn (w_ret (st_ret (vs := [_]) [] Try.results16 ⟨rfl, trivial⟩ rfl ?_)))))
  refine ⟨_, rfl, ?_⟩
  exact ⟨rfl, rfl⟩
end Go.Proofs.Ytbgddblfalahfaa
namespace Go.Proofs.Ytbgddblfalahfaa
open Go Go.SL Go.RowKit
set_option linter.unusedVariables false
set_option linter.unusedSimpArgs false
set_option maxRecDepth 100000 in
theorem open_graph {H : Type} {enc : TypeId × Value → H} {W : World} {v : Value} {d : DataW H} {p : List MemPlace} (hval : Value.okWide Try.prog W .any 0 46 v) (h : DataW.Trod enc Try.prog W 0 (fun _ => true) true 46 v d p) :
    ∃ (x2 : Int) (x3 : Int) (x4 : Int) (x5 : Int) (x6 : Int) (a7 : Option Addr) (c7 : Nat) (l7 : List (Int)), v = .agg #[.int .u8 x2, .int .u8 x3, .int .u8 x4, .int .u8 x5, .int .u8 x6, .slice a7 l7.length c7] ∧ (0 ≤ x2 ∧ x2 ≤ 255) ∧ (0 ≤ x3 ∧ x3 ≤ 255) ∧ (0 ≤ x4 ∧ x4 ≤ 255) ∧ (0 ≤ x5 ∧ x5 ≤ 255) ∧ (0 ≤ x6 ∧ x6 ≤ 255) ∧ Sl W [whole W] encY 1 (.slice a7 l7.length c7) l7 ∧ (∀ p ∈ l7, (0 ≤ p ∧ p ≤ 255)) := by
  obtain ⟨cs, rfl⟩ := okWide_agg (ss := [.int .u8, .int .u8, .int .u8, .int .u8, .int .u8, .slice 1 (.int .u8)]) (by kernel_rfl) hval
  obtain ⟨d, hd, hc, hdeep⟩ := open_Trod (s := .row [.int .u8, .int .u8, .int .u8, .int .u8, .int .u8, .slice 1 (.int .u8)]) (by kernel_rfl) h
  obtain ⟨dsx1, rfl, hdsx1⟩ := has_row hd
  obtain ⟨ex1_0, rx1_0, rfl, qx1_0, hdsx1⟩ := has_cons hdsx1
  obtain ⟨ex1_1, rx1_1, rfl, qx1_1, hdsx1⟩ := has_cons hdsx1
  obtain ⟨ex1_2, rx1_2, rfl, qx1_2, hdsx1⟩ := has_cons hdsx1
  obtain ⟨ex1_3, rx1_3, rfl, qx1_3, hdsx1⟩ := has_cons hdsx1
  obtain ⟨ex1_4, rx1_4, rfl, qx1_4, hdsx1⟩ := has_cons hdsx1
  obtain ⟨ex1_5, rx1_5, rfl, qx1_5, hdsx1⟩ := has_cons hdsx1
  obtain rfl := has_nil hdsx1
  obtain ⟨x2, rfl, hx2⟩ := has_int qx1_0
  obtain ⟨x3, rfl, hx3⟩ := has_int qx1_1
  obtain ⟨x4, rfl, hx4⟩ := has_int qx1_2
  obtain ⟨x5, rfl, hx5⟩ := has_int qx1_3
  obtain ⟨x6, rfl, hx6⟩ := has_int qx1_4
  obtain ⟨a7, c7, l7, rfl, hl7⟩ := has_slice qx1_5
  obtain ⟨l7, rfl, hb7⟩ := of_all (fun p : Int => (.z .u8 p : D)) (fun p => (0 ≤ p ∧ p ≤ 255)) l7 (fun d hd => by
      obtain ⟨y701, rfl, hy701⟩ := has_int (hl7 d hd)
      exact ⟨y701, rfl, wf_u8 hy701⟩)
  refine ⟨x2, x3, x4, x5, x6, a7, c7, l7, ?_, wf_u8 hx2, wf_u8 hx3, wf_u8 hx4, wf_u8 hx5, wf_u8 hx6, Sl.conv (deep_sl hdeep.2.2.2.2.2.1) (fun _ => rfl), hb7⟩
  congr 1
  apply Array.ext'
  simp only [Value.cells] at hc
  rw [hc]
  simp [encD, encDs]
end Go.Proofs.Ytbgddblfalahfaa
namespace Go.Proofs.Ytbgddblfalahfaa
open Go Go.SL Go.RowKit
set_option linter.unusedVariables false
set_option linter.unusedSimpArgs false
end Go.Proofs.Ytbgddblfalahfaa
namespace Go.Proofs.Ytbgddblfalahfaa
open Go Go.SL Go.RowKit
set_option linter.unusedVariables false
set_option linter.unusedSimpArgs false
theorem tA48g : aggB Try.prog 48 7 = true := by kernel_rfl
theorem tB48g : placesB Try.prog 48 = some ([(0, 1), (1, 1), (2, 1), (3, 2), (5, 1), (6, 1)], [Value.string .empty, Value.string .empty, Value.int .i64 0, Value.int .i64 0, Value.int .i64 0, Value.int .i64 0, Value.slice none 0 0]) := by kernel_rfl
theorem tF46_0g : fieldB Try.prog 46 0 0 = true := by kernel_rfl
theorem tF46_1g : fieldB Try.prog 46 1 1 = true := by kernel_rfl
theorem tF46_2g : fieldB Try.prog 46 2 2 = true := by kernel_rfl
theorem tF46_3g : fieldB Try.prog 46 3 3 = true := by kernel_rfl
theorem tF46_4g : fieldB Try.prog 46 4 4 = true := by kernel_rfl
theorem tF46_5g : fieldB Try.prog 46 5 5 = true := by kernel_rfl
theorem tF48_0g : fieldB Try.prog 48 0 0 = true := by kernel_rfl
theorem tF48_1g : fieldB Try.prog 48 1 1 = true := by kernel_rfl
theorem tF48_2g : fieldB Try.prog 48 2 2 = true := by kernel_rfl
theorem tF48_3g : fieldB Try.prog 48 3 3 = true := by kernel_rfl
theorem tF48_4g : fieldB Try.prog 48 4 5 = true := by kernel_rfl
theorem tF48_5g : fieldB Try.prog 48 5 6 = true := by kernel_rfl
theorem tL25_1g : zerosB Try.prog 25 3 1 1 = some [Value.int .i64 0] := by kernel_rfl
theorem tL93_4g : zerosB Try.prog 93 9 1 4 = some [Value.string .empty, Value.string .empty, Value.string .empty, Value.string .empty] := by kernel_rfl
theorem tMixg : Try.prog.follows .mixedOrders = true := by kernel_rfl
theorem tN48g : (Try.prog.info? 48).bind (·.zero) = some (Value.agg #[Value.string .empty, Value.string .empty, Value.int .i64 0, Value.int .i64 0, Value.int .i64 0, Value.int .i64 0, Value.slice none 0 0]) := by kernel_rfl
theorem tO22g : oneB Try.prog 22 = true := by kernel_rfl
theorem tO25g : oneB Try.prog 25 = true := by kernel_rfl
theorem tO3g : oneB Try.prog 3 = true := by kernel_rfl
theorem tO5g : oneB Try.prog 5 = true := by kernel_rfl
theorem tO9g : oneB Try.prog 9 = true := by kernel_rfl
theorem tP25g : appB Try.prog 25 3 1 8 = true := by kernel_rfl
theorem tS25g : sliceB Try.prog 25 3 1 = true := by kernel_rfl
theorem tS93g : sliceB Try.prog 93 9 1 = true := by kernel_rfl
theorem tZ24g : (Try.prog.info? 24).map (·.size) = some 2 := by kernel_rfl
theorem tZ25g : (Try.prog.info? 25).map (·.size) = some 1 := by kernel_rfl
theorem tZ48g : (Try.prog.info? 48).map (·.size) = some 7 := by kernel_rfl
def svcL : List ByteArray := [⟨#[97, 112, 105]⟩, ⟨#[100, 98]⟩, ⟨#[119, 101, 98]⟩, ⟨#[99, 97, 99, 104, 101]⟩]
def opL : List ByteArray := [⟨#[]⟩, ⟨#[103, 101, 116]⟩, ⟨#[112, 117, 116]⟩, ⟨#[108, 105, 115, 116]⟩]
theorem svc_get (x : Int) : svcL[(x % 4).toNat]? = some (svcL.getD (x % 4).toNat .empty) := by
  rw [List.getD_eq_getElem?_getD, List.getElem?_eq_getElem (by simp [svcL]; omega)]; rfl
theorem op_get (x : Int) : opL[(x % 4).toNat]? = some (opL.getD (x % 4).toNat .empty) := by
  rw [List.getD_eq_getElem?_getD, List.getElem?_eq_getElem (by simp [opL]; omega)]; rfl
def kG (a b c d : Int) : SK := ⟨svcL.getD (a % 4).toNat .empty, opL.getD (b % 4).toNat .empty, 1 + c % 3, if 1 + c % 3 = 3 then (mkF (1 + d % 10) 10).1 else 0, if 1 + c % 3 = 3 then (mkF (1 + d % 10) 10).2.1 else 0⟩
set_option maxHeartbeats 2000000 in
set_option maxRecDepth 100000 in
theorem series_any {σ : World} {F : List Res} {a : Option Addr} {c : Nat} {l : List Int} (lab : Nat) (x0 x1 x2 x3 x4 : Int) (h : Sl σ F encY 1 (.slice a l.length c) l) (hb : ∀ x ∈ l, 0 ≤ x ∧ x ≤ 255) (h0 : 0 ≤ x0 ∧ x0 ≤ 255) (h1 : 0 ≤ x1 ∧ x1 ≤ 255) (h2 : 0 ≤ x2 ∧ x2 ≤ 255) (h3 : 0 ≤ x3 ∧ x3 ≤ 255) (h4 : 0 ≤ x4 ∧ x4 ≤ 255) :
    FnT Try.prog σ F 20 [.agg #[.int .u8 x0, .int .u8 x1, .int .u8 x2, .int .u8 x3, .int .u8 x4, .slice a l.length c]] [] (fun u ρ => ∃ a c, u = sr (kG x0 x1 x2 x3) (x4 % 40) (.slice a (l.take 30).length c) ∧ ρ = [(lab, slW 3 encZ 1 (.slice a (l.take 30).length c) (l.take 30))]) := by
  refine fn_of 44 Try.func20 rfl Try.ntmps20 rfl ?_
  have htl : (l.take 30).length ≤ 30 := by rw [List.length_take]; omega
  refine w_seq (w_region (wl_op [] rfl rfl rfl rfl (op_box (T := 46) (l := 1) rfl) ?_))
  rintro _ _ ⟨b1, rfl, rfl⟩
  refine wl_op [] rfl rfl rfl rfl (op_alloc (l := 2) tN48g) ?_
  rintro _ _ ⟨b2, rfl, rfl⟩
  refine wl_nil (st_tn (w_seq ?_))
  refine w_drawW (fun β => [⟨4, [], [], [], fun w => DetW _ _, false, [], []⟩, ⟨5, [], [], [], noW (_), false, [], []⟩, ⟨6, [1], [], [], noW (_), false, [], []⟩, ⟨7, [2], [], [], noW (_), false, [], []⟩, ⟨8, [0, 3], [], [], noW (_), false, [], []⟩, ⟨9, [4, 0], [], [], noW (_), false, [], []⟩, ⟨10, [], [], [], fun w => DetW _ _, false, [], []⟩, ⟨11, [], [], [], noW (_), false, [], []⟩, ⟨12, [7], [], [], noW (_), false, [], []⟩, ⟨13, [8], [], [], noW (_), false, [], []⟩, ⟨14, [6, 9], [], [], noW (_), false, [], []⟩, ⟨15, [10, 6], [], [], noW (_), false, [], []⟩, ⟨16, [], [], [], noW (_), false, [], []⟩, ⟨17, [12], [], [], noW (_), false, [], []⟩, ⟨18, [13], [], [], noW (_), false, [], []⟩, ⟨19, [14], [], [], noW (_), false, [], []⟩, ⟨20, [15], [], [], noW (_), false, [], []⟩, ⟨21, [], [], [], noW (_), false, [], []⟩, ⟨22, [17], [], [], noW (_), false, [], []⟩, ⟨23, [18], [], [], noW (_), false, [], []⟩, ⟨24, [19], [], [], noW (_), false, [], []⟩, ⟨25, [5, 11, 16, 20], [], [], noW (_), false, [], []⟩, ⟨3, [], [], [], fun w => DetW _ _, false, [], []⟩]) [] [1] [⟨4, [], [], false, [], []⟩, ⟨5, [], [], false, [], []⟩, ⟨6, [1], [], false, [], []⟩, ⟨7, [2], [], false, [], []⟩, ⟨8, [0, 3], [], false, [], []⟩, ⟨9, [4, 0], [], false, [], []⟩, ⟨10, [], [], false, [], []⟩, ⟨11, [], [], false, [], []⟩, ⟨12, [7], [], false, [], []⟩, ⟨13, [8], [], false, [], []⟩, ⟨14, [6, 9], [], false, [], []⟩, ⟨15, [10, 6], [], false, [], []⟩, ⟨16, [], [], false, [], []⟩, ⟨17, [12], [], false, [], []⟩, ⟨18, [13], [], false, [], []⟩, ⟨19, [14], [], false, [], []⟩, ⟨20, [15], [], false, [], []⟩, ⟨21, [], [], false, [], []⟩, ⟨22, [17], [], false, [], []⟩, ⟨23, [18], [], false, [], []⟩, ⟨24, [19], [], false, [], []⟩, ⟨25, [5, 11, 16, 20], [], false, [], []⟩, ⟨3, [], [], false, [], []⟩] [[], [], [], [], [0], [0], [], [], [], [], [6], [6], [], [], [], [], [], [], [], [], [], [0, 6], []] [[], [], [], [], [], [], [], [], [], [], [], [], [], [], [], [], [], [], [], [], [], [], []] tMixg (fun _ => by rfl) (fun _ => by rfl) (by kernel_rfl) (by kernel_rfl) (by rfl) (by rfl)
      (fun β => ⟨.px rfl (by intro X; refine OpT.mono (op_buildSlice (enc := SL.encS) (l := svcL) (lab := 4) tL93_4g rfl rfl (fun _ => rfl) rfl) ?_; rintro _ _ ⟨a4, c4, rfl, rfl⟩; obtain ⟨w, rfl, rfl⟩ : ∃ w : Wt, w.a = a4 ∧ w.c = c4 := ⟨{ a := a4, c := c4 }, rfl, rfl⟩; exact ⟨w, rfl, rfl⟩),
      ⟨.p rfl (by intro X; exact op_fieldAddr (off := 0) rfl tF46_0g),
      ⟨.p rfl (by intro X; rintro _ _ ⟨rfl, rfl⟩; exact op_load1 rfl tO5g (Ent.lab (l := 1) rfl (says_cel 0))),
      ⟨.p rfl (by intro X; rintro _ _ ⟨rfl, rfl⟩; exact op_remN rfl rfl (by omega) (by omega)),
      ⟨.p rfl (by intro X; rintro _ _ ⟨rfl, rfl⟩ _ _ ⟨rfl, rfl⟩; exact op_idxK rfl rfl tS93g (Sl.lab 4 rfl (by simp [maxLen, svcL, opL])) (by omega) (by simp [svcL, opL]; omega)),
      ⟨.p rfl (by intro X; rintro _ _ ⟨rfl, rfl⟩ _ _ ⟨rfl, rfl⟩; exact op_ldx rfl tO9g (Sl.lab 4 rfl (by simp [maxLen, svcL])) (svc_get _) rfl),
      ⟨.px rfl (by intro X; refine OpT.mono (op_buildSlice (enc := SL.encS) (l := opL) (lab := 10) tL93_4g rfl rfl (fun _ => rfl) rfl) ?_; rintro _ _ ⟨a10, c10, rfl, rfl⟩; obtain ⟨w, rfl, rfl⟩ : ∃ w : Wt, w.a = a10 ∧ w.c = c10 := ⟨{ a := a10, c := c10 }, rfl, rfl⟩; exact ⟨w, rfl, rfl⟩),
      ⟨.p rfl (by intro X; exact op_fieldAddr (off := 1) rfl tF46_1g),
      ⟨.p rfl (by intro X; rintro _ _ ⟨rfl, rfl⟩; exact op_load1 rfl tO5g (Ent.lab (l := 1) rfl (says_cel 1))),
      ⟨.p rfl (by intro X; rintro _ _ ⟨rfl, rfl⟩; exact op_remN rfl rfl (by omega) (by omega)),
      ⟨.p rfl (by intro X; rintro _ _ ⟨rfl, rfl⟩ _ _ ⟨rfl, rfl⟩; exact op_idxK rfl rfl tS93g (Sl.lab 10 rfl (by simp [maxLen, svcL, opL])) (by omega) (by simp [svcL, opL]; omega)),
      ⟨.p rfl (by intro X; rintro _ _ ⟨rfl, rfl⟩ _ _ ⟨rfl, rfl⟩; exact op_ldx rfl tO9g (Sl.lab 10 rfl (by simp [maxLen, opL])) (op_get _) rfl),
      ⟨.p rfl (by intro X; exact op_fieldAddr (off := 2) rfl tF46_2g),
      ⟨.p rfl (by intro X; rintro _ _ ⟨rfl, rfl⟩; exact op_load1 rfl tO5g (Ent.lab (l := 1) rfl (says_cel 2))),
      ⟨.p rfl (by intro X; rintro _ _ ⟨rfl, rfl⟩; exact op_remN rfl rfl (by omega) (by omega)),
      ⟨.p rfl (by intro X; rintro _ _ ⟨rfl, rfl⟩; exact op_convI64 rfl (by rw [Try.underlying5]; rfl) Try.underlying3 (by omega)),
      ⟨.p rfl (by intro X; rintro _ _ ⟨rfl, rfl⟩; exact op_add' rfl rfl (by omega)),
      ⟨.p rfl (by intro X; exact op_fieldAddr (off := 4) rfl tF46_4g),
      ⟨.p rfl (by intro X; rintro _ _ ⟨rfl, rfl⟩; exact op_load1 rfl tO5g (Ent.lab (l := 1) rfl (says_cel 4))),
      ⟨.p rfl (by intro X; rintro _ _ ⟨rfl, rfl⟩; exact op_remN rfl rfl (by omega) (by omega)),
      ⟨.p rfl (by intro X; rintro _ _ ⟨rfl, rfl⟩; exact op_convI64 rfl (by rw [Try.underlying5]; rfl) Try.underlying3 (by omega)),
      ⟨.p rfl (by intro X; rintro _ _ ⟨rfl, rfl⟩ _ _ ⟨rfl, rfl⟩ _ _ ⟨rfl, rfl⟩ _ _ ⟨rfl, rfl⟩; exact op_build tB48g rfl rfl),
      ⟨.px rfl (by intro X; refine OpT.mono (op_alloc (l := 3) tN48g) ?_; rintro _ _ ⟨b3, rfl, rfl⟩; obtain ⟨w, rfl⟩ : ∃ w : Wt, w.b = b3 := ⟨{ b := b3 }, rfl⟩; exact ⟨w, rfl, rfl⟩),
      trivial⟩⟩⟩⟩⟩⟩⟩⟩⟩⟩⟩⟩⟩⟩⟩⟩⟩⟩⟩⟩⟩⟩⟩)
      (fun β β' => ⟨fun _ => by rfl, ⟨fun _ => by rfl, ⟨fun _ => by rfl, ⟨fun _ => by rfl, ⟨fun h => by first | rfl | (simp only [h 0 (by decide)]), ⟨fun h => by first | rfl | (simp only [h 0 (by decide)]), ⟨fun _ => by rfl, ⟨fun _ => by rfl, ⟨fun _ => by rfl, ⟨fun _ => by rfl, ⟨fun h => by first | rfl | (simp only [h 6 (by decide)]), ⟨fun h => by first | rfl | (simp only [h 6 (by decide)]), ⟨fun _ => by rfl, ⟨fun _ => by rfl, ⟨fun _ => by rfl, ⟨fun _ => by rfl, ⟨fun _ => by rfl, ⟨fun _ => by rfl, ⟨fun _ => by rfl, ⟨fun _ => by rfl, ⟨fun _ => by rfl, ⟨fun h => by first | rfl | (simp only [h 0 (by decide), h 6 (by decide)]), ⟨fun _ => by rfl, trivial⟩⟩⟩⟩⟩⟩⟩⟩⟩⟩⟩⟩⟩⟩⟩⟩⟩⟩⟩⟩⟩⟩⟩) ?_
  intro β
  rintro _ _ ⟨rfl, rfl⟩ _ _ ⟨rfl, rfl⟩ _ _ ⟨rfl, rfl⟩ _ _ ⟨rfl, rfl⟩ _ _ ⟨rfl, rfl⟩ _ _ ⟨rfl, rfl⟩ _ _ ⟨rfl, rfl⟩ _ _ ⟨rfl, rfl⟩ _ _ ⟨rfl, rfl⟩ _ _ ⟨rfl, rfl⟩ _ _ ⟨rfl, rfl⟩ _ _ ⟨rfl, rfl⟩ _ _ ⟨rfl, rfl⟩ _ _ ⟨rfl, rfl⟩ _ _ ⟨rfl, rfl⟩ _ _ ⟨rfl, rfl⟩ _ _ ⟨rfl, rfl⟩ _ _ ⟨rfl, rfl⟩ _ _ ⟨rfl, rfl⟩ _ _ ⟨rfl, rfl⟩ _ _ ⟨rfl, rfl⟩ _ _ ⟨rfl, rfl⟩ _ _ ⟨rfl, rfl⟩
  generalize (β 0).a = a4
  generalize (β 0).c = c4
  generalize (β 6).a = a10
  generalize (β 6).c = c10
  generalize (β 22).b = b3
  refine wl_norm (e' := [(1, _), (2, _), (3, _), (25, _)]) (.cons rfl (.cons rfl (.cons rfl (.cons rfl (.nil _))))) (by dsimp only [cond_false, cond_true, List.nil_append, List.cons_append]) ?_
  refine wl_op0 [3] rfl rfl rfl (op_store rfl rfl tZ48g (by rfl) (by rfl) (by exact Nat.le_of_ble_eq_true rfl)) ?_
  rintro _ _ ⟨rfl, rfl⟩
  refine wl_nil (st_tn (w_seq (w_seq (w_cutL [(28, .bool (decide (1 + x2 % 3 = 3)))] [1, 2, 3] [1, 2, 4, 10, 3] rfl (fun K' hK => ?_) ?_))))
  · -- cut r2
    refine w_region (zd rfl (op_fieldAddr (off := 2) rfl tF48_2g) (zd rfl (op_load1 rfl tO3g (Ent.lab (l := 3) rfl (says_cel 2))) (zd rfl (op_eql rfl rfl) (wl_nil (st_tn ?_)))))
    exact cut_done (L' := [1, 2, 4, 10, 3]) hK (by intro q hq; simp only [List.mem_cons, List.not_mem_nil, or_false] at hq; subst hq; all_goals first | rfl | (show some _ = some _; simp [*]; done)) (by rfl) rfl rfl
  · -- behind r2
    show W _ _ _ _ _ [(28, _), (1, _), (2, _), (3, _)] [(1, _), (2, _), (4, _), (10, _), (3, _)] _
    refine w_cond_d rfl (fun hc28 => ?_) (fun hc28 => ?_)
    · -- c28.t
      refine w_region (zd rfl (op_fieldAddr (off := 3) rfl tF46_3g) (zd rfl (op_load1 rfl tO5g (Ent.lab (l := 1) rfl (says_cel 3))) (zd rfl (op_remN rfl rfl (by omega) (by omega)) ?_)))
      refine zd rfl (op_convI64 rfl (by rw [Try.underlying5]; rfl) Try.underlying3 (by omega)) ?_
      refine zd rfl (op_add' rfl rfl (by omega)) ?_
      refine zd rfl (op_fn Try.func54 rfl rfl rfl (mk_any _ _ (by omega) (by omega))) ?_
      refine zm rfl (zd rfl (op_extract rfl rfl) (zd rfl (op_extract rfl rfl) (zd rfl (op_fieldAddr (off := 3) rfl tF48_3g) (wl_op0 [3] rfl rfl rfl (op_store rfl rfl tZ24g (by rfl) (by rfl) (by exact Nat.le_of_ble_eq_true rfl)) ?_))))
      rintro _ _ ⟨rfl, rfl⟩
      refine wl_nil (st_tn (w_seq (w_region (zd rfl (op_fieldAddr (off := 5) rfl tF46_5g) (zd rfl (op_load1 rfl tO22g (Ent.lab (l := 1) rfl (says_cel 5))) (wl_op [] rfl rfl rfl rfl (op_fn Try.func14 rfl rfl rfl (points_any 41 (by first | exact Sl.app (by assumption) _ | exact Sl.app (Sl.app (by assumption) _) _) (by assumption))) ?_))))))
      rintro _ _ ⟨a41, c41, rfl, rfl⟩
      refine zd rfl (op_fieldAddr (off := 6) rfl tF48_5g) (wl_op0 [3] rfl rfl rfl (op_store rfl rfl tZ25g (by rfl) (by rfl) (by exact Nat.le_of_ble_eq_true rfl)) ?_)
      rintro _ _ ⟨rfl, rfl⟩
      refine wl_nil (st_tn (w_seq (w_region (zd rfl (op_loadA rfl tA48g (Ent.lab (l := 3) rfl (says_cel 0)) (Nat.le_of_ble_eq_true rfl)) (wl_op0 [2] rfl rfl rfl (op_store rfl rfl tZ48g (by rfl) (by rfl) (by exact Nat.le_of_ble_eq_true rfl)) ?_)))))
      rintro _ _ ⟨rfl, rfl⟩
      refine wl_nil (st_tn (w_ret (st_ret (vs := [_]) [41] Try.results20 ⟨⟨_, rfl, Ent.mono (Ent.lab (l := 2) rfl (says_cel 0)) (fun _ h => run_load_agg tA48g h (Nat.le_of_ble_eq_true rfl))⟩, trivial⟩ rfl ?_)))
      refine ⟨[(lab, _)], rfl, ?_⟩
      first | (have hk : kG x0 x1 x2 x3 = ⟨svcL.getD (x0 % 4).toNat .empty, opL.getD (x1 % 4).toNat .empty, 1 + x2 % 3, (mkF (1 + x3 % 10) 10).1, (mkF (1 + x3 % 10) 10).2.1⟩ := by { unfold kG; rw [if_pos hc28, if_pos hc28] }; rw [hk]; exact ⟨_, _, rfl, rfl⟩) | (have hk : kG x0 x1 x2 x3 = ⟨svcL.getD (x0 % 4).toNat .empty, opL.getD (x1 % 4).toNat .empty, 1 + x2 % 3, 0, 0⟩ := by { unfold kG; rw [if_neg hc28, if_neg hc28] }; rw [hk]; exact ⟨_, _, rfl, rfl⟩)
    · -- c28.f
      refine w_skip (st_tn (w_seq (w_region (zd rfl (op_fieldAddr (off := 5) rfl tF46_5g) (zd rfl (op_load1 rfl tO22g (Ent.lab (l := 1) rfl (says_cel 5))) (wl_op [] rfl rfl rfl rfl (op_fn Try.func14 rfl rfl rfl (points_any 41 (by first | exact Sl.app (by assumption) _ | exact Sl.app (Sl.app (by assumption) _) _) (by assumption))) ?_))))))
      rintro _ _ ⟨a41, c41, rfl, rfl⟩
      refine zd rfl (op_fieldAddr (off := 6) rfl tF48_5g) (wl_op0 [3] rfl rfl rfl (op_store rfl rfl tZ25g (by rfl) (by rfl) (by exact Nat.le_of_ble_eq_true rfl)) ?_)
      rintro _ _ ⟨rfl, rfl⟩
      refine wl_nil (st_tn (w_seq (w_region (zd rfl (op_loadA rfl tA48g (Ent.lab (l := 3) rfl (says_cel 0)) (Nat.le_of_ble_eq_true rfl)) (wl_op0 [2] rfl rfl rfl (op_store rfl rfl tZ48g (by rfl) (by rfl) (by exact Nat.le_of_ble_eq_true rfl)) ?_)))))
      rintro _ _ ⟨rfl, rfl⟩
      refine wl_nil (st_tn (w_ret (st_ret (vs := [_]) [41] Try.results20 ⟨⟨_, rfl, Ent.mono (Ent.lab (l := 2) rfl (says_cel 0)) (fun _ h => run_load_agg tA48g h (Nat.le_of_ble_eq_true rfl))⟩, trivial⟩ rfl ?_)))
      refine ⟨[(lab, _)], rfl, ?_⟩
      first | (have hk : kG x0 x1 x2 x3 = ⟨svcL.getD (x0 % 4).toNat .empty, opL.getD (x1 % 4).toNat .empty, 1 + x2 % 3, (mkF (1 + x3 % 10) 10).1, (mkF (1 + x3 % 10) 10).2.1⟩ := by { unfold kG; rw [if_pos hc28, if_pos hc28] }; rw [hk]; exact ⟨_, _, rfl, rfl⟩) | (have hk : kG x0 x1 x2 x3 = ⟨svcL.getD (x0 % 4).toNat .empty, opL.getD (x1 % 4).toNat .empty, 1 + x2 % 3, 0, 0⟩ := by { unfold kG; rw [if_neg hc28, if_neg hc28] }; rw [hk]; exact ⟨_, _, rfl, rfl⟩)
def rateOf (p : Int × Int) : Int := p.1 * 1000000 / max 1 p.2
def ratesE (k : SK) (fr : Int) (l : List Int) (k' : SK) (fr' : Int) (m : List Int) : Int :=
  if k.met ≠ 2 ∨ k'.met ≠ 1 then 12 else if k.svc ≠ k'.svc ∨ k.op ≠ k'.op ∨ fr ≠ fr' ∨ l.length ≠ m.length then 17 else if (l.zip m).any (fun p => decide (p.1 > p.2)) then 20 else 0
theorem zip_get {l m : List Int} {i : Nat} {x y : Int} (hx : l[i]? = some x) (hy : m[i]? = some y) : (l.zip m)[i]? = some (x, y) := by
  rw [List.getElem?_zip_eq_some]; exact ⟨hx, hy⟩
theorem any_take {z : List (Int × Int)} {i : Nat} {q : Int × Int → Bool} {p : Int × Int} (h : z[i]? = some p) (hq : q p = true) : z.any q = true := List.any_eq_true.2 ⟨p, List.mem_of_getElem? h, hq⟩
set_option maxHeartbeats 2000000 in
set_option maxRecDepth 100000 in
theorem rates_any {σ : World} {F : List Res} {a b : Option Addr} {c d : Nat} {l m : List Int} (lab : Nat) (k : SK) (fr : Int) (k' : SK) (fr' : Int) (h : Sl σ F encZ 1 (.slice a l.length c) l) (g : Sl σ F encZ 1 (.slice b m.length d) m) (hl : l.length ≤ 1048576) (hm : m.length ≤ 1048576) (hv : ∀ x ∈ l, 0 ≤ x ∧ x ≤ 1099511627776) (hw : ∀ x ∈ m, 0 ≤ x ∧ x ≤ 1099511627776) :
    FnT Try.prog σ F 21 [sr k fr (.slice a l.length c), sr k' fr' (.slice b m.length d)] [] (fun u ρ => ∃ r a c, r = (if ratesE k fr l k' fr' m = 0 then (l.zip m).map rateOf else []) ∧ u = .tuple #[.slice a r.length c, .int .i64 (ratesE k fr l k' fr' m)] ∧ ρ = [(lab, slW 3 encZ 1 (.slice a r.length c) r)]) := by
  refine fn_of 76 Try.func21 rfl Try.ntmps21 rfl ?_
  have hle := h.i64
  have gle := g.i64
  refine w_seq (w_region (wl_op [] rfl rfl rfl rfl (op_box (T := 48) (l := 2) rfl) ?_))
  rintro _ _ ⟨b2, rfl, rfl⟩
  refine wl_op [] rfl rfl rfl rfl (op_box (T := 48) (l := 3) rfl) ?_
  rintro _ _ ⟨b3, rfl, rfl⟩
  refine za rfl (za rfl (wl_nil (st_tn (w_seq (w_block (w_seq (w_cutL [(9, .bool (decide (k.met ≠ 2 ∨ k'.met ≠ 1)))] [2, 3] [2, 3] rfl (fun K' hK => ?_) ?_)))))))
  · -- cut r1
    refine w_region (zd rfl (op_fieldAddr (off := 2) rfl tF48_2g) (zd rfl (op_load1 rfl tO3g (Ent.lab (l := 2) rfl (says_cel 2))) (zd rfl (op_neq rfl rfl) (zm rfl (wl_gsplit (t := 13) rfl (fun hg13 => ?_) (fun hg13 => ?_))))))
    · -- 13 is True
      refine wl_unwanted rfl rfl rfl rfl rfl rfl rfl rfl (wl_unwanted rfl rfl rfl rfl rfl rfl rfl rfl (wl_unwanted rfl rfl rfl rfl rfl rfl rfl rfl (zd rfl (op_pick_t rfl rfl) (za rfl (wl_nil (st_tn ?_))))))
      exact cut_done1 [2, 3] hK rfl (by first | (rw [decide_eq_decide]; omega) | (symm; rw [decide_eq_false_iff_not]; omega) | (symm; rw [decide_eq_true_iff]; omega) | (simp; done) | (simp; omega) | (simp [*]; done) | (simp [*]; omega)) (by rfl) rfl rfl
    · -- 13 is False
      refine wl_wanted_det rfl rfl rfl rfl rfl rfl rfl (op_fieldAddr (off := 2) rfl tF48_2g) (wl_wanted_det rfl rfl rfl rfl rfl rfl rfl (op_load1 rfl tO3g (Ent.lab (l := 3) rfl (says_cel 2))) (wl_wanted_det rfl rfl rfl rfl rfl rfl rfl (op_neq rfl rfl) (zd rfl (op_pick_f rfl rfl) (za rfl (wl_nil (st_tn ?_))))))
      exact cut_done1 [2, 3] hK rfl (by first | (rw [decide_eq_decide]; omega) | (symm; rw [decide_eq_false_iff_not]; omega) | (symm; rw [decide_eq_true_iff]; omega) | (simp; done) | (simp; omega) | (simp [*]; done) | (simp [*]; omega)) (by rfl) rfl rfl
  · -- behind r1
    show W _ _ _ _ _ [(9, _), (2, _), (3, _)] [(2, _), (3, _)] _
    refine w_cond_d rfl (fun hc9 => ?_) (fun hc9 => ?_)
    · -- c9.t
      refine w_seq (w_emp 77 (slO_nil 3 1) ?_)
      refine w_region (za rfl (za rfl (wl_nil (st_tn (w_ret (st_br (st_tr (st_ret (vs := [_, _]) [77] Try.results21 ⟨rfl, ⟨rfl, trivial⟩⟩ rfl ?_))))))))
      refine ⟨[(lab, _)], rfl, ?_⟩
      have he : ratesE k fr l k' fr' m = 12 := by unfold ratesE; rw [if_pos hc9]
      exact ⟨[], none, 0, by rw [he]; rfl, by rw [he]; rfl, rfl⟩
    · -- c9.f
      refine w_seq (w_cutL [(18, .bool (decide (k.svc ≠ k'.svc ∨ k.op ≠ k'.op ∨ fr ≠ fr' ∨ l.length ≠ m.length)))] [2, 3] [2, 3] rfl (fun K' hK => ?_) ?_)
      · -- cut r3
        refine w_region (zd rfl (op_fieldAddr (off := 0) rfl tF48_0g) (zd rfl (op_load1 rfl tO9g (Ent.lab (l := 2) rfl (says_cel 0))) (zd rfl (op_fieldAddr (off := 0) rfl tF48_0g) (zd rfl (op_load1 rfl tO9g (Ent.lab (l := 3) rfl (says_cel 0))) (zd rfl (op_neStr rfl rfl) (zm rfl (wl_gsplit (t := 24) rfl (fun hg24 => ?_) (fun hg24 => ?_))))))))
        · -- 24 is True
          refine wl_unwanted rfl rfl rfl rfl rfl rfl rfl rfl (wl_unwanted rfl rfl rfl rfl rfl rfl rfl rfl (wl_unwanted rfl rfl rfl rfl rfl rfl rfl rfl (wl_unwanted rfl rfl rfl rfl rfl rfl rfl rfl (wl_unwanted rfl rfl rfl rfl rfl rfl rfl rfl (zd rfl (op_pick_t rfl rfl) (zm rfl (wl_unwanted rfl rfl rfl rfl rfl rfl rfl rfl (wl_unwanted rfl rfl rfl rfl rfl rfl rfl rfl (wl_unwanted rfl rfl rfl rfl rfl rfl rfl rfl (wl_unwanted rfl rfl rfl rfl rfl rfl rfl rfl (wl_unwanted rfl rfl rfl rfl rfl rfl rfl rfl (zd rfl (op_pick_t rfl rfl) (zm rfl ?_)))))))))))))
          refine wl_unwanted rfl rfl rfl rfl rfl rfl rfl rfl (wl_unwanted rfl rfl rfl rfl rfl rfl rfl rfl (wl_unwanted rfl rfl rfl rfl rfl rfl rfl rfl (wl_unwanted rfl rfl rfl rfl rfl rfl rfl rfl (wl_unwanted rfl rfl rfl rfl rfl rfl rfl rfl (wl_unwanted rfl rfl rfl rfl rfl rfl rfl rfl (wl_unwanted rfl rfl rfl rfl rfl rfl rfl rfl (zd rfl (op_pick_t rfl rfl) (za rfl (wl_nil (st_tn ?_))))))))))
          exact cut_done1 [2, 3] hK rfl (by first | (rw [decide_eq_decide]; omega) | (symm; rw [decide_eq_false_iff_not]; omega) | (symm; rw [decide_eq_true_iff]; omega) | (simp; done) | (simp; omega) | (simp [*]; done) | (simp [*]; omega)) (by rfl) rfl rfl
        · -- 24 is False
          refine wl_wanted_det rfl rfl rfl rfl rfl rfl rfl (op_fieldAddr (off := 1) rfl tF48_1g) (wl_wanted_det rfl rfl rfl rfl rfl rfl rfl (op_load1 rfl tO9g (Ent.lab (l := 2) rfl (says_cel 1))) (wl_wanted_det rfl rfl rfl rfl rfl rfl rfl (op_fieldAddr (off := 1) rfl tF48_1g) (wl_wanted_det rfl rfl rfl rfl rfl rfl rfl (op_load1 rfl tO9g (Ent.lab (l := 3) rfl (says_cel 1))) (wl_wanted_det rfl rfl rfl rfl rfl rfl rfl (op_neStr rfl rfl) (zd rfl (op_pick_f rfl rfl) (zm rfl (wl_gsplit (t := 31) rfl (fun hg31 => ?_) (fun hg31 => ?_))))))))
          · -- 31 is True
            refine wl_unwanted rfl rfl rfl rfl rfl rfl rfl rfl (wl_unwanted rfl rfl rfl rfl rfl rfl rfl rfl (wl_unwanted rfl rfl rfl rfl rfl rfl rfl rfl (wl_unwanted rfl rfl rfl rfl rfl rfl rfl rfl (wl_unwanted rfl rfl rfl rfl rfl rfl rfl rfl (zd rfl (op_pick_t rfl rfl) (zm rfl (wl_unwanted rfl rfl rfl rfl rfl rfl rfl rfl (wl_unwanted rfl rfl rfl rfl rfl rfl rfl rfl (wl_unwanted rfl rfl rfl rfl rfl rfl rfl rfl (wl_unwanted rfl rfl rfl rfl rfl rfl rfl rfl (wl_unwanted rfl rfl rfl rfl rfl rfl rfl rfl (wl_unwanted rfl rfl rfl rfl rfl rfl rfl rfl (wl_unwanted rfl rfl rfl rfl rfl rfl rfl rfl ?_)))))))))))))
            refine zd rfl (op_pick_t rfl rfl) (za rfl (wl_nil (st_tn ?_)))
            exact cut_done1 [2, 3] hK rfl (by first | (rw [decide_eq_decide]; omega) | (symm; rw [decide_eq_false_iff_not]; omega) | (symm; rw [decide_eq_true_iff]; omega) | (simp; done) | (simp; omega) | (simp [*]; done) | (simp [*]; omega)) (by rfl) rfl rfl
          · -- 31 is False
            refine wl_wanted_det rfl rfl rfl rfl rfl rfl rfl (op_fieldAddr (off := 5) rfl tF48_4g) (wl_wanted_det rfl rfl rfl rfl rfl rfl rfl (op_load1 rfl tO3g (Ent.lab (l := 2) rfl (says_cel 5))) (wl_wanted_det rfl rfl rfl rfl rfl rfl rfl (op_fieldAddr (off := 5) rfl tF48_4g) (wl_wanted_det rfl rfl rfl rfl rfl rfl rfl (op_load1 rfl tO3g (Ent.lab (l := 3) rfl (says_cel 5))) (wl_wanted_det rfl rfl rfl rfl rfl rfl rfl (op_neq rfl rfl) (zd rfl (op_pick_f rfl rfl) (zm rfl (wl_gsplit (t := 38) rfl (fun hg38 => ?_) (fun hg38 => ?_))))))))
            · -- 38 is True
              refine wl_unwanted rfl rfl rfl rfl rfl rfl rfl rfl (wl_unwanted rfl rfl rfl rfl rfl rfl rfl rfl (wl_unwanted rfl rfl rfl rfl rfl rfl rfl rfl (wl_unwanted rfl rfl rfl rfl rfl rfl rfl rfl (wl_unwanted rfl rfl rfl rfl rfl rfl rfl rfl (wl_unwanted rfl rfl rfl rfl rfl rfl rfl rfl (wl_unwanted rfl rfl rfl rfl rfl rfl rfl rfl (zd rfl (op_pick_t rfl rfl) (za rfl (wl_nil (st_tn ?_))))))))))
              exact cut_done1 [2, 3] hK rfl (by first | (rw [decide_eq_decide]; omega) | (symm; rw [decide_eq_false_iff_not]; omega) | (symm; rw [decide_eq_true_iff]; omega) | (simp; done) | (simp; omega) | (simp [*]; done) | (simp [*]; omega)) (by rfl) rfl rfl
            · -- 38 is False
              refine wl_wanted_det rfl rfl rfl rfl rfl rfl rfl (op_fieldAddr (off := 6) rfl tF48_5g) (wl_wanted_det rfl rfl rfl rfl rfl rfl rfl (op_load1 rfl tO25g (Ent.lab (l := 2) rfl (says_cel 6))) (wl_wanted_det rfl rfl rfl rfl rfl rfl rfl (op_lenT rfl tS25g (Sl.ent (by first | exact Sl.app h _ | exact Sl.app g _))) ?_))
              refine wl_wanted_det rfl rfl rfl rfl rfl rfl rfl (op_fieldAddr (off := 6) rfl tF48_5g) (wl_wanted_det rfl rfl rfl rfl rfl rfl rfl (op_load1 rfl tO25g (Ent.lab (l := 3) rfl (says_cel 6))) (wl_wanted_det rfl rfl rfl rfl rfl rfl rfl (op_lenT rfl tS25g (Sl.ent (by first | exact Sl.app h _ | exact Sl.app g _))) ?_))
              refine wl_wanted_det rfl rfl rfl rfl rfl rfl rfl (op_neq rfl rfl) (zd rfl (op_pick_f rfl rfl) (za rfl (wl_nil (st_tn ?_))))
              exact cut_done1 [2, 3] hK rfl (by first | (rw [decide_eq_decide]; omega) | (symm; rw [decide_eq_false_iff_not]; omega) | (symm; rw [decide_eq_true_iff]; omega) | (simp; done) | (simp; omega) | (simp [*]; done) | (simp [*]; omega)) (by rfl) rfl rfl
      · -- behind r3
        show W _ _ _ _ _ [(18, _), (2, _), (3, _)] [(2, _), (3, _)] _
        refine w_cond_d rfl (fun hc18 => ?_) (fun hc18 => ?_)
        · -- c18.t
          refine w_seq (w_emp 77 (slO_nil 3 1) ?_)
          refine w_region (za rfl (za rfl (wl_nil (st_tn (w_ret (st_br (st_tr (st_ret (vs := [_, _]) [77] Try.results21 ⟨rfl, ⟨rfl, trivial⟩⟩ rfl ?_))))))))
          refine ⟨[(lab, _)], rfl, ?_⟩
          have he : ratesE k fr l k' fr' m = 17 := by unfold ratesE; rw [if_neg hc9, if_pos hc18]
          exact ⟨[], none, 0, by rw [he]; rfl, by rw [he]; rfl, rfl⟩
        · -- c18.f
          have hlm : l.length = m.length := Classical.byContradiction fun e => hc18 (.inr (.inr (.inr e)))
          refine w_skip (st_bn (st_tn (w_seq (w_region (za rfl (wl_nil (st_tn (w_seq (w_seq (w_region (zd rfl (op_fieldAddr (off := 6) rfl tF48_5g) (zd rfl (op_load1 rfl tO25g (Ent.lab (l := 3) rfl (says_cel 6))) (zd rfl (op_lenT rfl tS25g (Sl.ent (by first | exact Sl.app h _ | exact Sl.app g _))) ?_)))))))))))))
          refine zm rfl (wl_nil (st_tn (w_block (w_emp 6 (slO_nil 3 1) ?_))))
          refine w_loopQ (X := Nat × List Int × Option Addr × Nat) (fun z => z.1 ≤ m.length ∧ z.2.1 = ((l.zip m).take z.1).map rateOf ∧ ∀ p ∈ (l.zip m).take z.1, ¬ p.1 > p.2) (fun z => [(50, .int .i64 (z.1)), (6, .slice (z.2.2.1) (z.2.1).length (z.2.2.2))]) (fun z => [(6, slW 3 SL.encZ 1 (.slice (z.2.2.1) (z.2.1).length (z.2.2.2)) (z.2.1))]) (fun z => m.length - z.1) ((0, [], none, 0)) [(2, _), (48, _), (49, _)] [(2, _), (3, _)] [6, 2, 3] rfl (rfl) (.cons rfl (.cons rfl (.nil _))) (.cons rfl (.cons rfl (.cons rfl (.nil _)))) (by
              try dsimp only
              exact ⟨Nat.zero_le _, rfl, by simp⟩) ?_
          rintro ⟨i, out, a_out, c_out⟩ ⟨hi, ho, hn⟩
          refine w_norm2 (by dsimp only [List.cons_append, List.nil_append]) (by dsimp only [List.cons_append, List.nil_append]) ?_
          try dsimp only at hi ho hn ⊢
          refine w_seq (w_region (zd rfl (op_lss rfl rfl) (wl_nil (st_tn (w_seq (w_cond_d rfl (fun hc51 => ?_) (fun hc51 => ?_)))))))
          · -- c51.t
            obtain ⟨x, hx⟩ := getE (l := l) (i := i) (by omega)
            obtain ⟨y, hy⟩ := getE (l := m) (i := i) (by omega)
            have hz := zip_get hx hy
            have hxb := hv x (List.mem_of_getElem? hx)
            have hyb := hw y (List.mem_of_getElem? hy)
            have hol : out.length = i := by rw [ho]; simp; omega
            refine w_skip (st_tn (w_seq (w_block (w_seq (w_region (zm rfl (zd rfl (op_idx rfl rfl tS25g (Sl.ent (by first | exact Sl.app h _ | exact Sl.app g _)) (by omega)) ?_)))))))
            refine zd rfl (op_ldx rfl tO3g (by first | exact Sl.app h _ | exact Sl.app g _) (by assumption) (by rfl)) ?_
            refine za rfl (za rfl (wl_nil (st_tn (w_seq (w_seq (w_region (zd rfl (op_fieldAddr (off := 6) rfl tF48_5g) (zd rfl (op_load1 rfl tO25g (Ent.lab (l := 2) rfl (says_cel 6))) (zm rfl (zd rfl (op_idx rfl rfl tS25g (Sl.ent (by first | exact Sl.app h _ | exact Sl.app g _)) (by omega)) ?_))))))))))
            refine zd rfl (op_ldx rfl tO3g (by first | exact Sl.app h _ | exact Sl.app g _) (by assumption) (by rfl)) ?_
            refine zm rfl (zd rfl (op_gtr rfl rfl) (wl_nil (st_tn (w_cond_d rfl (fun hc61 => ?_) (fun hc61 => ?_)))))
            · -- c61.t
              refine w_seq (w_emp 77 (slO_nil 3 1) ?_)
              refine w_region (za rfl (za rfl (wl_nil (st_tn (w_ret (st_tr (st_br (st_tr (st_tr (st_br (st_tr (st_ret (vs := [_, _]) [77] Try.results21 ⟨rfl, ⟨rfl, trivial⟩⟩ rfl ?_))))))))))))
              refine ⟨[(lab, _)], rfl, ?_⟩
              have he : ratesE k fr l k' fr' m = 20 := by unfold ratesE; rw [if_neg hc9, if_neg hc18, if_pos (any_take hz (decide_eq_true hc61))]
              exact ⟨[], none, 0, by rw [he]; rfl, by rw [he]; rfl, rfl⟩
            · -- c61.f
              refine w_skip (st_tn (w_region (zm rfl (zd rfl (op_fieldAddr (off := 6) rfl tF48_5g) (zd rfl (op_load1 rfl tO25g (Ent.lab (l := 2) rfl (says_cel 6))) (zm rfl (zd rfl (op_idx rfl rfl tS25g (Sl.ent (by first | exact Sl.app h _ | exact Sl.app g _)) (by omega)) ?_)))))))
              refine zd rfl (op_ldx rfl tO3g (by first | exact Sl.app h _ | exact Sl.app g _) (by assumption) (by rfl)) ?_
              refine zd rfl (op_mul' rfl rfl (by omega)) ?_
              refine zm rfl (zd rfl (op_max rfl rfl) (zd rfl (op_quoN rfl rfl (by omega) (by omega) (by omega)) ?_))
              refine wl_op [] rfl rfl rfl rfl (op_buildSlice (enc := SL.encZ) (l := [_]) (lab := 72) tL25_1g rfl rfl (fun _ => rfl) rfl) ?_
              rintro _ _ ⟨a72, c72, rfl, rfl⟩
              refine wl_op [6] rfl rfl rfl rfl (op_append (lab := 6) (lab' := 73) rfl rfl tP25g SL.enc1Z (Sl.lab 72 rfl (by simp [maxLen])) (by first | omega | (simp; done) | (simp; omega) | (simp [*]; omega)) (by first | omega | (simp; done) | (simp; omega) | (simp [*]; omega))) ?_
              rintro _ _ ⟨a73, c73, rfl, rfl⟩
              refine za rfl (wl_nil (st_bn (st_tn (w_region (zd rfl (op_add' rfl rfl (by omega)) ?_)))))
              refine zm rfl (wl_nil ?_)
              refine st_roundQ (x := (i, out, a_out, c_out)) ((i + 1, _, _, _)) [73, 2, 3] rfl (rfl) (.cons rfl (.cons rfl (.nil _))) (.cons rfl (.cons rfl (.cons rfl (.nil _)))) (by
                  try dsimp only
                  refine ⟨by omega, ?_, ?_⟩
                  · rw [take_snoc hz, List.map_append, ← ho]; rfl
                  · rw [take_snoc hz]; intro p hp; rcases List.mem_append.1 hp with hp | hp; (· exact hn p hp); (· simp only [List.mem_singleton] at hp; subst hp; exact hc61)) (by
                  try dsimp only
                  omega)
          · -- c51.f
            refine w_exit (st_te ?_)
            refine st_te ?_
            refine st_be (st_tn (w_seq (w_region (zm rfl (za rfl (za rfl (wl_nil (st_tn (w_ret (st_ret (vs := [_, _]) [6] Try.results21 ⟨rfl, ⟨rfl, trivial⟩⟩ rfl ?_))))))))))
            refine ⟨[(lab, _)], rfl, ?_⟩
            have hzl : (l.zip m).length = m.length := by simp; omega
            rw [take_all (by omega)] at ho hn
            have he : ratesE k fr l k' fr' m = 0 := by
              unfold ratesE
              rw [if_neg hc9, if_neg hc18, if_neg]
              intro h1; obtain ⟨p, hp, h2⟩ := List.any_eq_true.1 h1; exact hn p hp (of_decide_eq_true h2)
            exact ⟨out, _, _, by rw [he, if_pos rfl, ho], by rw [he]; rfl, rfl⟩
end Go.Proofs.Ytbgddblfalahfaa
namespace Go.Proofs.Ytbgddblfalahfaa
open Go Go.SL Go.RowKit
set_option linter.unusedVariables false
set_option linter.unusedSimpArgs false
theorem tA24h : aggB Try.prog 24 2 = true := by kernel_rfl
theorem tA48h : aggB Try.prog 48 7 = true := by kernel_rfl
theorem tB24h : placesB Try.prog 24 = some ([(0, 1), (1, 1)], [Value.int .i64 0, Value.int .i64 0]) := by kernel_rfl
theorem tF48_0h : fieldB Try.prog 48 0 0 = true := by kernel_rfl
theorem tF48_1h : fieldB Try.prog 48 1 1 = true := by kernel_rfl
theorem tF48_2h : fieldB Try.prog 48 2 2 = true := by kernel_rfl
theorem tF48_3h : fieldB Try.prog 48 3 3 = true := by kernel_rfl
theorem tF48_4h : fieldB Try.prog 48 4 5 = true := by kernel_rfl
theorem tF48_5h : fieldB Try.prog 48 5 6 = true := by kernel_rfl
theorem tG24h : Try.prog.eqGuardType Try.prog.depth 24 = false := by kernel_rfl
theorem tO25h : oneB Try.prog 25 = true := by kernel_rfl
theorem tO3h : oneB Try.prog 3 = true := by kernel_rfl
theorem tO9h : oneB Try.prog 9 = true := by kernel_rfl
theorem tS25h : sliceB Try.prog 25 3 1 = true := by kernel_rfl
theorem ba_get (s : ByteArray) (i : Nat) : s[i]? = s.data.toList[i]? := by
  by_cases h : i < s.size
  · rw [getElem?_pos s i h, List.getElem?_eq_getElem (by rw [Array.length_toList]; exact h)]; rfl
  · rw [getElem?_neg s i h, List.getElem?_eq_none (by rw [Array.length_toList]; exact Nat.le_of_not_lt h)]
def within (lo hi : Int) (s : ByteArray) : Prop := ∀ b ∈ s.data.toList, lo ≤ (b.toNat : Int) ∧ (b.toNat : Int) ≤ hi
instance (lo hi : Int) (s : ByteArray) : Decidable (within lo hi s) := by unfold within; infer_instance
set_option maxHeartbeats 400000 in
set_option maxRecDepth 100000 in
theorem within_any {σ : World} {F : List Res} (s : ByteArray) (lo hi : Int) (hs : s.size ≤ maxLen) (h0 : 0 ≤ lo ∧ lo ≤ 255) (h1 : 0 ≤ hi ∧ hi ≤ 255) : FnT Try.prog σ F 81 [.string s, .int .u8 lo, .int .u8 hi] [] (fun u ρ => u = .bool (decide (within lo hi s)) ∧ ρ = []) := by
  refine fn_of 26 Try.func81 rfl Try.ntmps81 rfl ?_
  have hls : s.data.toList.length = s.size := by rw [Array.length_toList]; rfl
  unfold maxLen at hs
  refine w_seq (w_region (za rfl (wl_nil (st_tn (w_seq (w_seq (w_region (zm rfl (zd rfl (op_lenS rfl Try.underlying9) (zm rfl (wl_nil (st_tn (w_block ?_)))))))))))))
  refine w_loopQ (X := Nat) (fun z => z ≤ s.size ∧ ∀ b ∈ s.data.toList.take z, lo ≤ (b.toNat : Int) ∧ (b.toNat : Int) ≤ hi) (fun z => [(10, .int .i64 (z))]) (fun _ => []) (fun z => s.size - z) (0) [(0, _), (1, _), (2, _), (9, _)] [] [] rfl (rfl) (.cons rfl (.nil _)) (.cons rfl (.cons rfl (.cons rfl (.cons rfl (.nil _))))) (by
      try dsimp only
      exact ⟨Nat.zero_le _, by simp⟩) ?_
  rintro i ⟨hi0, hn⟩
  refine w_norm2 (by dsimp only [List.cons_append, List.nil_append]) (by dsimp only [List.cons_append, List.nil_append]) ?_
  try dsimp only at hi0 hn ⊢
  refine w_seq (w_region (zd rfl (op_lss rfl rfl) (wl_nil (st_tn (w_seq (w_cond_d rfl (fun hc11 => ?_) (fun hc11 => ?_)))))))
  · -- c11.t
    obtain ⟨b, hb⟩ : ∃ b, s[i]? = some b := ⟨s[i], getElem?_pos s i (by omega)⟩
    have hb' : s.data.toList[i]? = some b := by rw [← ba_get]; exact hb
    refine w_skip (st_tn (w_seq (w_block (w_seq (w_region (zm rfl (za rfl (wl_nil (st_tn (w_seq (w_cutL [(24, .bool (decide ((b.toNat : Int) < lo ∨ (b.toNat : Int) > hi)))] [0, 1, 2, 9, 10] [] rfl (fun K' hK => ?_) ?_)))))))))))
    · -- cut r4
      refine w_region (zm rfl (zm rfl (zd rfl (op_idxS rfl rfl Try.underlying9 (by assumption)) ?_)))
      refine zm rfl (zd rfl (op_lss rfl rfl) (zm rfl (wl_gsplit (t := 18) rfl (fun hg18 => ?_) (fun hg18 => ?_))))
      · -- 18 is True
        refine wl_unwanted rfl rfl rfl rfl rfl rfl rfl rfl (wl_unwanted rfl rfl rfl rfl rfl rfl rfl rfl (wl_unwanted rfl rfl rfl rfl rfl rfl rfl rfl (wl_unwanted rfl rfl rfl rfl rfl rfl rfl rfl (wl_unwanted rfl rfl rfl rfl rfl rfl rfl rfl (zd rfl (op_pick_t rfl rfl) (wl_nil (st_tn ?_)))))))
        exact cut_done1 [] hK rfl (by first | (rw [decide_eq_decide]; omega) | (symm; rw [decide_eq_false_iff_not]; omega) | (symm; rw [decide_eq_true_iff]; omega) | (simp; done) | (simp; omega) | (simp [*]; done) | (simp [*]; omega)) (by rfl) rfl rfl
      · -- 18 is False
        refine wl_wanted_det rfl rfl rfl rfl rfl rfl rfl (op_move rfl) (wl_wanted_det rfl rfl rfl rfl rfl rfl rfl (op_move rfl) (wl_wanted_det rfl rfl rfl rfl rfl rfl rfl (op_idxS rfl rfl Try.underlying9 (by assumption)) ?_))
        refine wl_wanted_det rfl rfl rfl rfl rfl rfl rfl (op_move rfl) (wl_wanted_det rfl rfl rfl rfl rfl rfl rfl (op_gtr rfl rfl) (zd rfl (op_pick_f rfl rfl) (wl_nil (st_tn ?_))))
        exact cut_done1 [] hK rfl (by first | (rw [decide_eq_decide]; omega) | (symm; rw [decide_eq_false_iff_not]; omega) | (symm; rw [decide_eq_true_iff]; omega) | (simp; done) | (simp; omega) | (simp [*]; done) | (simp [*]; omega)) (by rfl) rfl rfl
    · -- behind r4
      show W _ _ _ _ _ [(24, _), (0, _), (1, _), (2, _), (9, _), (10, _)] [] _
      refine w_cond_d rfl (fun hc24 => ?_) (fun hc24 => ?_)
      · -- c24.t
        refine w_seq (w_region (za rfl (wl_nil (st_tn (w_ret (st_br (st_tr (st_tr (st_br (st_tr (st_ret (vs := [_]) [] Try.results81 ⟨rfl, trivial⟩ rfl ?_)))))))))))
        refine ⟨_, rfl, ?_⟩
        refine ⟨?_, rfl⟩; have : ¬ within lo hi s := fun h => by have := h b (List.mem_of_getElem? hb'); omega
        simp [retv, this]
      · -- c24.f
        refine w_skip (st_bn (st_tn (w_region (zd rfl (op_add' rfl rfl (by omega)) ?_))))
        refine zm rfl (wl_nil ?_)
        refine st_roundQ (x := i) (i + 1) [] rfl (rfl) (.cons rfl (.nil _)) (.cons rfl (.cons rfl (.cons rfl (.cons rfl (.nil _))))) (by
            try dsimp only
            refine ⟨by omega, by rw [take_snoc hb']; intro q hq; rcases List.mem_append.1 hq with hq | hq; (· exact hn q hq); (· simp only [List.mem_singleton] at hq; subst hq; omega)⟩) (by
            try dsimp only
            omega)
  · -- c11.f
    refine w_exit (st_te ?_)
    refine st_te ?_
    refine st_be (st_tn (w_seq (w_region (za rfl (wl_nil (st_tn (w_ret (st_ret (vs := [_]) [] Try.results81 ⟨rfl, trivial⟩ rfl ?_))))))))
    refine ⟨_, rfl, ?_⟩
    refine ⟨?_, rfl⟩; rw [take_all (by omega)] at hn; have : within lo hi s := hn
    simp [retv, this]
def nameP (s : ByteArray) : Prop := (s ≠ ⟨#[]⟩ ∧ (s.size : Int) ≤ 64) ∧ within 33 126 s
instance (s : ByteArray) : Decidable (nameP s) := by unfold nameP; infer_instance
set_option maxHeartbeats 400000 in
set_option maxRecDepth 100000 in
theorem isName_any {σ : World} {F : List Res} (s : ByteArray) (hs : s.size ≤ maxLen) : FnT Try.prog σ F 59 [.string s] [] (fun u ρ => u = .bool (decide (nameP s)) ∧ ρ = []) := by
  refine fn_of 14 Try.func59 rfl Try.ntmps59 rfl ?_
  refine w_seq (w_region (za rfl (wl_nil (st_tn (w_seq (w_region (zm rfl (zd rfl (op_neStr rfl rfl) (zm rfl (wl_gsplit (t := 5) rfl (fun hg5 => ?_) (fun hg5 => ?_)))))))))))
  · -- 5 is True
    refine wl_wanted_det rfl rfl rfl rfl rfl rfl rfl (op_move rfl) (wl_wanted_det rfl rfl rfl rfl rfl rfl rfl (op_lenS rfl Try.underlying9) (wl_wanted_det rfl rfl rfl rfl rfl rfl rfl (op_leq rfl rfl) (zd rfl (op_pick_t rfl rfl) (zm rfl (wl_gsplit (t := 10) rfl (fun hg10 => ?_) (fun hg10 => ?_))))))
    · -- 10 is True
      refine wl_wanted_det rfl rfl rfl rfl rfl rfl rfl (op_move rfl) (wl_wanted_det rfl rfl rfl rfl rfl rfl rfl (op_fn Try.func81 rfl rfl rfl (within_any _ _ _ (by assumption) (by omega) (by omega))) ?_)
      refine zd rfl (op_pick_t rfl rfl) (za rfl (wl_nil (st_tn (w_ret (st_ret (vs := [_]) [] Try.results59 ⟨rfl, trivial⟩ rfl ?_)))))
      refine ⟨_, rfl, ?_⟩
      refine ⟨?_, rfl⟩
      unfold nameP
      first | (simp [retv, *]; done) | (simp [retv, *]; omega) | (simp_all [retv]; done)
    · -- 10 is False
      refine wl_unwanted rfl rfl rfl rfl rfl rfl rfl rfl (wl_unwanted rfl rfl rfl rfl rfl rfl rfl rfl (zd rfl (op_pick_f rfl rfl) (za rfl (wl_nil (st_tn (w_ret (st_ret (vs := [_]) [] Try.results59 ⟨rfl, trivial⟩ rfl ?_)))))))
      refine ⟨_, rfl, ?_⟩
      refine ⟨?_, rfl⟩
      unfold nameP
      first | (simp [retv, *]; done) | (simp [retv, *]; omega) | (simp_all [retv]; done)
  · -- 5 is False
    refine wl_unwanted rfl rfl rfl rfl rfl rfl rfl rfl (wl_unwanted rfl rfl rfl rfl rfl rfl rfl rfl (wl_unwanted rfl rfl rfl rfl rfl rfl rfl rfl (zd rfl (op_pick_f rfl rfl) (zm rfl (wl_unwanted rfl rfl rfl rfl rfl rfl rfl rfl (wl_unwanted rfl rfl rfl rfl rfl rfl rfl rfl (zd rfl (op_pick_f rfl rfl) (za rfl (wl_nil (st_tn (w_ret (st_ret (vs := [_]) [] Try.results59 ⟨rfl, trivial⟩ rfl ?_))))))))))))
    refine ⟨_, rfl, ?_⟩
    refine ⟨?_, rfl⟩
    unfold nameP
    first | (simp [retv, *]; done) | (simp [retv, *]; omega) | (simp_all [retv]; done)
set_option maxHeartbeats 400000 in
set_option maxRecDepth 100000 in
theorem badv_any {σ : World} {F : List Res} (x : Int) : FnT Try.prog σ F 60 [.int .i64 x] [] (fun u ρ => u = .bool (decide (x < 0 ∨ x > 1099511627776)) ∧ ρ = []) := by
  refine fn_of 9 Try.func60 rfl Try.ntmps60 rfl ?_
  refine w_seq (w_region (za rfl (wl_nil (st_tn (w_seq (w_region (zm rfl (zd rfl (op_lss rfl rfl) (zm rfl (wl_gsplit (t := 5) rfl (fun hg5 => ?_) (fun hg5 => ?_)))))))))))
  · -- 5 is True
    refine wl_unwanted rfl rfl rfl rfl rfl rfl rfl rfl (wl_unwanted rfl rfl rfl rfl rfl rfl rfl rfl (zd rfl (op_pick_t rfl rfl) (za rfl (wl_nil (st_tn (w_ret (st_ret (vs := [_]) [] Try.results60 ⟨rfl, trivial⟩ rfl ?_)))))))
    refine ⟨_, rfl, ?_⟩
    refine ⟨?_, rfl⟩
    first | (simp [retv, *]; done) | (simp [retv, *]; omega)
  · -- 5 is False
    refine wl_wanted_det rfl rfl rfl rfl rfl rfl rfl (op_move rfl) (wl_wanted_det rfl rfl rfl rfl rfl rfl rfl (op_gtr rfl rfl) (zd rfl (op_pick_f rfl rfl) (za rfl (wl_nil (st_tn (w_ret (st_ret (vs := [_]) [] Try.results60 ⟨rfl, trivial⟩ rfl ?_)))))))
    refine ⟨_, rfl, ?_⟩
    refine ⟨?_, rfl⟩
    first | (simp [retv, *]; done) | (simp [retv, *]; omega)
def chkE (k : SK) (fr : Int) (l : List Int) : Int :=
  if ¬ nameP k.svc ∨ (k.op ≠ ⟨#[]⟩ ∧ ¬ nameP k.op) then 11
  else if k.met < 1 ∨ k.met > 3 then 12
  else if (k.met = 3 ∧ ¬ goodB k.qn k.qd) ∨ (k.met ≠ 3 ∧ ¬ (k.qn, k.qd) = (0, 0)) then 3
  else if fr < 0 ∨ fr > 1048576 then 32
  else if l.length > 1024 then 6
  else if fr + l.length > 1048577 then 32
  else if l.any (fun x => decide (x < 0 ∨ x > 1099511627776)) then 2 else 0
set_option maxHeartbeats 1000000 in
set_option maxRecDepth 100000 in
theorem check_any {σ : World} {F : List Res} {a : Option Addr} {c : Nat} {l : List Int} (k : SK) (fr : Int) (h : Sl σ F encZ 1 (.slice a l.length c) l) (hs : k.svc.size ≤ maxLen) (ho : k.op.size ≤ maxLen) (hx : -9223372036854775808 ≤ k.qn ∧ k.qn ≤ 9223372036854775807) (hy : -9223372036854775808 ≤ k.qd ∧ k.qd ≤ 9223372036854775807) :
    FnT Try.prog σ F 30 [sr k fr (.slice a l.length c)] [] (fun u ρ => u = .int .i64 (chkE k fr l) ∧ ρ = []) := by
  refine fn_of 75 Try.func30 rfl Try.ntmps30 rfl ?_
  have hle := h.i64
  refine w_seq (w_region (wl_op [] rfl rfl rfl rfl (op_box (T := 48) (l := 1) rfl) ?_))
  rintro _ _ ⟨b1, rfl, rfl⟩
  refine za rfl (wl_nil (st_tn (w_seq (w_block (w_seq (w_cutL [(3, .bool (decide (¬ nameP k.svc ∨ (k.op ≠ ⟨#[]⟩ ∧ ¬ nameP k.op))))] [1] [1] rfl (fun K' hK => ?_) ?_))))))
  · -- cut r1
    refine w_region (zd rfl (op_fieldAddr (off := 0) rfl tF48_0h) (zd rfl (op_load1 rfl tO9h (Ent.lab (l := 1) rfl (says_cel 0))) (zd rfl (op_fn Try.func59 rfl rfl rfl (isName_any _ (by assumption))) ?_)))
    refine zd rfl (op_not_d rfl) (zm rfl (wl_gsplit (t := 8) rfl (fun hg8 => ?_) (fun hg8 => ?_)))
    · -- 8 is True
      refine wl_unwanted rfl rfl rfl rfl rfl rfl rfl rfl (wl_unwanted rfl rfl rfl rfl rfl rfl rfl rfl (wl_unwanted rfl rfl rfl rfl rfl rfl rfl rfl (wl_unwanted rfl rfl rfl rfl rfl rfl rfl rfl (wl_unwantedU rfl rfl rfl rfl rfl rfl rfl ?_))))
      refine wl_unwantedU rfl rfl rfl rfl rfl rfl rfl ?_
      refine wl_unwantedU rfl rfl rfl rfl rfl rfl rfl ?_
      refine wl_unwantedU rfl rfl rfl rfl rfl rfl rfl ?_
      refine wl_unwanted rfl rfl rfl rfl rfl rfl rfl rfl (zd rfl (op_pick_t rfl rfl) (za rfl (wl_nil (st_tn ?_))))
      exact cut_done1 [1] hK rfl (by first | (rw [decide_eq_decide]; omega) | (symm; rw [decide_eq_false_iff_not]; omega) | (symm; rw [decide_eq_true_iff]; omega) | (simp; done) | (simp; omega) | (simp [*]; done) | (simp [*]; omega)) (by rfl) rfl rfl
    · -- 8 is False
      refine wl_wanted_det rfl rfl rfl rfl rfl rfl rfl (op_fieldAddr (off := 1) rfl tF48_1h) (wl_wanted_det rfl rfl rfl rfl rfl rfl rfl (op_load1 rfl tO9h (Ent.lab (l := 1) rfl (says_cel 1))) (wl_wanted_det rfl rfl rfl rfl rfl rfl rfl (op_neStr rfl rfl) (wl_wanted_det rfl rfl rfl rfl rfl rfl rfl (op_move rfl) (wl_gsplit (t := 12) rfl (fun hg12 => ?_) (fun hg12 => ?_)))))
      · -- 12 is True
        refine wl_wanted_det rfl rfl rfl rfl rfl rfl rfl (op_fieldAddr (off := 1) rfl tF48_1h) (wl_wanted_det rfl rfl rfl rfl rfl rfl rfl (op_load1 rfl tO9h (Ent.lab (l := 1) rfl (says_cel 1))) (wl_wanted_det rfl rfl rfl rfl rfl rfl rfl (op_fn Try.func59 rfl rfl rfl (isName_any _ (by assumption))) ?_))
        refine wl_wanted_det rfl rfl rfl rfl rfl rfl rfl (op_not_d rfl) (wl_wanted_det rfl rfl rfl rfl rfl rfl rfl (op_pick_t rfl rfl) (zd rfl (op_pick_f rfl rfl) (za rfl (wl_nil (st_tn ?_)))))
        exact cut_done1 [1] hK rfl (by first | (rw [decide_eq_decide]; omega) | (symm; rw [decide_eq_false_iff_not]; omega) | (symm; rw [decide_eq_true_iff]; omega) | (simp; done) | (simp; omega) | (simp [*]; done) | (simp [*]; omega)) (by rfl) rfl rfl
      · -- 12 is False
        refine wl_unwanted rfl rfl rfl rfl rfl rfl rfl rfl (wl_unwanted rfl rfl rfl rfl rfl rfl rfl rfl (wl_unwanted rfl rfl rfl rfl rfl rfl rfl rfl (wl_unwanted rfl rfl rfl rfl rfl rfl rfl rfl (wl_wanted_det rfl rfl rfl rfl rfl rfl rfl (op_pick_f rfl rfl) (zd rfl (op_pick_f rfl rfl) (za rfl (wl_nil (st_tn ?_))))))))
        exact cut_done1 [1] hK rfl (by first | (rw [decide_eq_decide]; omega) | (symm; rw [decide_eq_false_iff_not]; omega) | (symm; rw [decide_eq_true_iff]; omega) | (simp; done) | (simp; omega) | (simp [*]; done) | (simp [*]; omega)) (by rfl) rfl rfl
  · -- behind r1
    show W _ _ _ _ _ [(3, _), (1, _)] [(1, _)] _
    refine w_cond_d rfl (fun hc3 => ?_) (fun hc3 => ?_)
    · -- c3.t
      refine w_seq (w_region (za rfl (wl_nil (st_tn (w_ret (st_br (st_tr (st_ret (vs := [_]) [] Try.results30 ⟨rfl, trivial⟩ rfl ?_))))))))
      refine ⟨_, rfl, ?_⟩
      unfold chkE; rw [if_pos hc3]; exact ⟨rfl, rfl⟩
    · -- c3.f
      refine w_seq (w_cutL [(19, .bool (decide (k.met < 1 ∨ k.met > 3)))] [1] [1] rfl (fun K' hK => ?_) ?_)
      · -- cut r3
        refine w_region (zd rfl (op_fieldAddr (off := 2) rfl tF48_2h) (zd rfl (op_load1 rfl tO3h (Ent.lab (l := 1) rfl (says_cel 2))) (zd rfl (op_lss rfl rfl) (zm rfl (wl_gsplit (t := 23) rfl (fun hg23 => ?_) (fun hg23 => ?_))))))
        · -- 23 is True
          refine wl_unwanted rfl rfl rfl rfl rfl rfl rfl rfl (wl_unwanted rfl rfl rfl rfl rfl rfl rfl rfl (wl_unwanted rfl rfl rfl rfl rfl rfl rfl rfl (zd rfl (op_pick_t rfl rfl) (za rfl (wl_nil (st_tn ?_))))))
          exact cut_done1 [1] hK rfl (by first | (rw [decide_eq_decide]; omega) | (symm; rw [decide_eq_false_iff_not]; omega) | (symm; rw [decide_eq_true_iff]; omega) | (simp; done) | (simp; omega) | (simp [*]; done) | (simp [*]; omega)) (by rfl) rfl rfl
        · -- 23 is False
          refine wl_wanted_det rfl rfl rfl rfl rfl rfl rfl (op_fieldAddr (off := 2) rfl tF48_2h) (wl_wanted_det rfl rfl rfl rfl rfl rfl rfl (op_load1 rfl tO3h (Ent.lab (l := 1) rfl (says_cel 2))) (wl_wanted_det rfl rfl rfl rfl rfl rfl rfl (op_gtr rfl rfl) (zd rfl (op_pick_f rfl rfl) (za rfl (wl_nil (st_tn ?_))))))
          exact cut_done1 [1] hK rfl (by first | (rw [decide_eq_decide]; omega) | (symm; rw [decide_eq_false_iff_not]; omega) | (symm; rw [decide_eq_true_iff]; omega) | (simp; done) | (simp; omega) | (simp [*]; done) | (simp [*]; omega)) (by rfl) rfl rfl
      · -- behind r3
        show W _ _ _ _ _ [(19, _), (1, _)] [(1, _)] _
        refine w_cond_d rfl (fun hc19 => ?_) (fun hc19 => ?_)
        · -- c19.t
          refine w_seq (w_region (za rfl (wl_nil (st_tn (w_ret (st_br (st_tr (st_ret (vs := [_]) [] Try.results30 ⟨rfl, trivial⟩ rfl ?_))))))))
          refine ⟨_, rfl, ?_⟩
          unfold chkE; rw [if_neg hc3, if_pos hc19]; exact ⟨rfl, rfl⟩
        · -- c19.f
          refine w_seq (w_cutL [(28, .bool (decide ((k.met = 3 ∧ ¬ goodB k.qn k.qd) ∨ (k.met ≠ 3 ∧ ¬ (k.qn, k.qd) = (0, 0)))))] [1] [1] rfl (fun K' hK => ?_) ?_)
          · -- cut r5
            refine w_region (zd rfl (op_fieldAddr (off := 2) rfl tF48_2h) (zd rfl (op_load1 rfl tO3h (Ent.lab (l := 1) rfl (says_cel 2))) (zd rfl (op_eql rfl rfl) (zm rfl (wl_gsplit (t := 32) rfl (fun hg32 => ?_) (fun hg32 => ?_))))))
            · -- 32 is True
              refine wl_wanted_det rfl rfl rfl rfl rfl rfl rfl (op_fieldAddr (off := 3) rfl tF48_3h) (wl_wanted_det rfl rfl rfl rfl rfl rfl rfl (op_loadA rfl tA24h (Ent.lab (l := 1) rfl (says_cel 3)) (Nat.le_of_ble_eq_true rfl)) (wl_wanted_det rfl rfl rfl rfl rfl rfl rfl (op_fn Try.func46 rfl rfl rfl (squant_any _ _ (by omega) (by omega))) ?_))
              refine wl_wanted_det rfl rfl rfl rfl rfl rfl rfl (op_not_d rfl) (zd rfl (op_pick_t rfl rfl) (zm rfl (wl_gsplit (t := 38) rfl (fun hg38 => ?_) (fun hg38 => ?_))))
              · -- 38 is True
                refine wl_unwanted rfl rfl rfl rfl rfl rfl rfl rfl (wl_unwanted rfl rfl rfl rfl rfl rfl rfl rfl (wl_unwanted rfl rfl rfl rfl rfl rfl rfl rfl (wl_unwanted rfl rfl rfl rfl rfl rfl rfl rfl (wl_unwantedU rfl rfl rfl rfl rfl rfl rfl ?_))))
                refine wl_unwantedU rfl rfl rfl rfl rfl rfl rfl ?_
                refine wl_unwantedU rfl rfl rfl rfl rfl rfl rfl ?_
                refine wl_unwantedU rfl rfl rfl rfl rfl rfl rfl ?_
                refine wl_unwanted rfl rfl rfl rfl rfl rfl rfl rfl (zd rfl (op_pick_t rfl rfl) (za rfl (wl_nil (st_tn ?_))))
                exact cut_done1 [1] hK rfl (by first | (rw [decide_eq_decide]; omega) | (symm; rw [decide_eq_false_iff_not]; omega) | (symm; rw [decide_eq_true_iff]; omega) | (simp; done) | (simp; omega) | (simp [*]; done) | (simp [*]; omega)) (by rfl) rfl rfl
              · -- 38 is False
                refine wl_wanted_det rfl rfl rfl rfl rfl rfl rfl (op_fieldAddr (off := 2) rfl tF48_2h) (wl_wanted_det rfl rfl rfl rfl rfl rfl rfl (op_load1 rfl tO3h (Ent.lab (l := 1) rfl (says_cel 2))) (wl_wanted_det rfl rfl rfl rfl rfl rfl rfl (op_neq rfl rfl) (wl_wanted_det rfl rfl rfl rfl rfl rfl rfl (op_move rfl) (wl_gsplit (t := 42) rfl (fun hg42 => ?_) (fun hg42 => ?_)))))
                · -- 42 is True
                  refine wl_wanted_det rfl rfl rfl rfl rfl rfl rfl (op_fieldAddr (off := 3) rfl tF48_3h) (wl_wanted_det rfl rfl rfl rfl rfl rfl rfl (op_loadA rfl tA24h (Ent.lab (l := 1) rfl (says_cel 3)) (Nat.le_of_ble_eq_true rfl)) (wl_wanted_det rfl rfl rfl rfl rfl rfl rfl (op_build tB24h rfl rfl) (wl_wanted_det rfl rfl rfl rfl rfl rfl rfl (op_neA rfl rfl tG24h (eq24 _ _ _ _)) (wl_wanted_det rfl rfl rfl rfl rfl rfl rfl (op_pick_t rfl rfl) (zd rfl (op_pick_f rfl rfl) (za rfl (wl_nil (st_tn ?_))))))))
                  exact cut_done1 [1] hK rfl (by first | (rw [decide_eq_decide]; omega) | (symm; rw [decide_eq_false_iff_not]; omega) | (symm; rw [decide_eq_true_iff]; omega) | (simp; done) | (simp; omega) | (simp [*]; done) | (simp [*]; omega)) (by rfl) rfl rfl
                · -- 42 is False
                  refine wl_unwanted rfl rfl rfl rfl rfl rfl rfl rfl (wl_unwanted rfl rfl rfl rfl rfl rfl rfl rfl (wl_unwanted rfl rfl rfl rfl rfl rfl rfl rfl (wl_unwanted rfl rfl rfl rfl rfl rfl rfl rfl (wl_wanted_det rfl rfl rfl rfl rfl rfl rfl (op_pick_f rfl rfl) (zd rfl (op_pick_f rfl rfl) (za rfl (wl_nil (st_tn ?_))))))))
                  exact cut_done1 [1] hK rfl (by first | (rw [decide_eq_decide]; omega) | (symm; rw [decide_eq_false_iff_not]; omega) | (symm; rw [decide_eq_true_iff]; omega) | (simp; done) | (simp; omega) | (simp [*]; done) | (simp [*]; omega)) (by rfl) rfl rfl
            · -- 32 is False
              refine wl_unwanted rfl rfl rfl rfl rfl rfl rfl rfl (wl_unwanted rfl rfl rfl rfl rfl rfl rfl rfl (wl_unwanted rfl rfl rfl rfl rfl rfl rfl rfl (wl_unwanted rfl rfl rfl rfl rfl rfl rfl rfl (zd rfl (op_pick_f rfl rfl) (zm rfl (wl_wanted_det rfl rfl rfl rfl rfl rfl rfl (op_fieldAddr (off := 2) rfl tF48_2h) (wl_wanted_det rfl rfl rfl rfl rfl rfl rfl (op_load1 rfl tO3h (Ent.lab (l := 1) rfl (says_cel 2))) (wl_wanted_det rfl rfl rfl rfl rfl rfl rfl (op_neq rfl rfl) (wl_wanted_det rfl rfl rfl rfl rfl rfl rfl (op_move rfl) (wl_gsplit (t := 42) rfl (fun hg42 => ?_) (fun hg42 => ?_)))))))))))
              · -- 42 is True
                refine wl_wanted_det rfl rfl rfl rfl rfl rfl rfl (op_fieldAddr (off := 3) rfl tF48_3h) (wl_wanted_det rfl rfl rfl rfl rfl rfl rfl (op_loadA rfl tA24h (Ent.lab (l := 1) rfl (says_cel 3)) (Nat.le_of_ble_eq_true rfl)) (wl_wanted_det rfl rfl rfl rfl rfl rfl rfl (op_build tB24h rfl rfl) (wl_wanted_det rfl rfl rfl rfl rfl rfl rfl (op_neA rfl rfl tG24h (eq24 _ _ _ _)) (wl_wanted_det rfl rfl rfl rfl rfl rfl rfl (op_pick_t rfl rfl) (zd rfl (op_pick_f rfl rfl) (za rfl (wl_nil (st_tn ?_))))))))
                exact cut_done1 [1] hK rfl (by first | (rw [decide_eq_decide]; omega) | (symm; rw [decide_eq_false_iff_not]; omega) | (symm; rw [decide_eq_true_iff]; omega) | (simp; done) | (simp; omega) | (simp [*]; done) | (simp [*]; omega)) (by rfl) rfl rfl
              · -- 42 is False
                refine wl_unwanted rfl rfl rfl rfl rfl rfl rfl rfl (wl_unwanted rfl rfl rfl rfl rfl rfl rfl rfl (wl_unwanted rfl rfl rfl rfl rfl rfl rfl rfl (wl_unwanted rfl rfl rfl rfl rfl rfl rfl rfl (wl_wanted_det rfl rfl rfl rfl rfl rfl rfl (op_pick_f rfl rfl) (zd rfl (op_pick_f rfl rfl) (za rfl (wl_nil (st_tn ?_))))))))
                exact cut_done1 [1] hK rfl (by first | (rw [decide_eq_decide]; omega) | (symm; rw [decide_eq_false_iff_not]; omega) | (symm; rw [decide_eq_true_iff]; omega) | (simp; done) | (simp; omega) | (simp [*]; done) | (simp [*]; omega)) (by rfl) rfl rfl
          · -- behind r5
            show W _ _ _ _ _ [(28, _), (1, _)] [(1, _)] _
            refine w_cond_d rfl (fun hc28 => ?_) (fun hc28 => ?_)
            · -- c28.t
              refine w_seq (w_region (za rfl (wl_nil (st_tn (w_ret (st_br (st_tr (st_ret (vs := [_]) [] Try.results30 ⟨rfl, trivial⟩ rfl ?_))))))))
              refine ⟨_, rfl, ?_⟩
              unfold chkE; rw [if_neg hc3, if_neg hc19, if_pos hc28]; exact ⟨rfl, rfl⟩
            · -- c28.f
              refine w_seq (w_cutL [(49, .bool (decide (fr < 0 ∨ fr > 1048576)))] [1] [1] rfl (fun K' hK => ?_) ?_)
              · -- cut r7
                refine w_region (zd rfl (op_fieldAddr (off := 5) rfl tF48_4h) (zd rfl (op_load1 rfl tO3h (Ent.lab (l := 1) rfl (says_cel 5))) (zd rfl (op_lss rfl rfl) (zm rfl (wl_gsplit (t := 53) rfl (fun hg53 => ?_) (fun hg53 => ?_))))))
                · -- 53 is True
                  refine wl_unwanted rfl rfl rfl rfl rfl rfl rfl rfl (wl_unwanted rfl rfl rfl rfl rfl rfl rfl rfl (wl_unwanted rfl rfl rfl rfl rfl rfl rfl rfl (zd rfl (op_pick_t rfl rfl) (za rfl (wl_nil (st_tn ?_))))))
                  exact cut_done1 [1] hK rfl (by first | (rw [decide_eq_decide]; omega) | (symm; rw [decide_eq_false_iff_not]; omega) | (symm; rw [decide_eq_true_iff]; omega) | (simp; done) | (simp; omega) | (simp [*]; done) | (simp [*]; omega)) (by rfl) rfl rfl
                · -- 53 is False
                  refine wl_wanted_det rfl rfl rfl rfl rfl rfl rfl (op_fieldAddr (off := 5) rfl tF48_4h) (wl_wanted_det rfl rfl rfl rfl rfl rfl rfl (op_load1 rfl tO3h (Ent.lab (l := 1) rfl (says_cel 5))) (wl_wanted_det rfl rfl rfl rfl rfl rfl rfl (op_gtr rfl rfl) (zd rfl (op_pick_f rfl rfl) (za rfl (wl_nil (st_tn ?_))))))
                  exact cut_done1 [1] hK rfl (by first | (rw [decide_eq_decide]; omega) | (symm; rw [decide_eq_false_iff_not]; omega) | (symm; rw [decide_eq_true_iff]; omega) | (simp; done) | (simp; omega) | (simp [*]; done) | (simp [*]; omega)) (by rfl) rfl rfl
              · -- behind r7
                show W _ _ _ _ _ [(49, _), (1, _)] [(1, _)] _
                refine w_cond_d rfl (fun hc49 => ?_) (fun hc49 => ?_)
                · -- c49.t
                  refine w_seq (w_region (za rfl (wl_nil (st_tn (w_ret (st_br (st_tr (st_ret (vs := [_]) [] Try.results30 ⟨rfl, trivial⟩ rfl ?_))))))))
                  refine ⟨_, rfl, ?_⟩
                  unfold chkE; rw [if_neg hc3, if_neg hc19, if_neg hc28, if_pos hc49]; exact ⟨rfl, rfl⟩
                · -- c49.f
                  refine w_seq (w_region (zd rfl (op_fieldAddr (off := 6) rfl tF48_5h) (zd rfl (op_load1 rfl tO25h (Ent.lab (l := 1) rfl (says_cel 6))) (zd rfl (op_lenT rfl tS25h (Sl.ent (by first | exact Sl.app (by assumption) _ | exact Sl.app (Sl.app (by assumption) _) _))) ?_))))
                  refine zd rfl (op_gtr rfl rfl) (za rfl (wl_nil (st_tn (w_cond_d rfl (fun hc58 => ?_) (fun hc58 => ?_)))))
                  · -- c58.t
                    refine w_seq (w_region (za rfl (wl_nil (st_tn (w_ret (st_br (st_tr (st_ret (vs := [_]) [] Try.results30 ⟨rfl, trivial⟩ rfl ?_))))))))
                    refine ⟨_, rfl, ?_⟩
                    unfold chkE; rw [if_neg hc3, if_neg hc19, if_neg hc28, if_neg hc49, if_pos (by omega)]; exact ⟨rfl, rfl⟩
                  · -- c58.f
                    refine w_seq (w_region (zd rfl (op_fieldAddr (off := 5) rfl tF48_4h) (zd rfl (op_load1 rfl tO3h (Ent.lab (l := 1) rfl (says_cel 5))) (zd rfl (op_fieldAddr (off := 6) rfl tF48_5h) (zd rfl (op_load1 rfl tO25h (Ent.lab (l := 1) rfl (says_cel 6))) (zd rfl (op_lenT rfl tS25h (Sl.ent (by first | exact Sl.app (by assumption) _ | exact Sl.app (Sl.app (by assumption) _) _))) ?_))))))
                    refine zd rfl (op_add' rfl rfl (by omega)) ?_
                    refine zd rfl (op_gtr rfl rfl) (za rfl (wl_nil (st_tn (w_cond_d rfl (fun hc63 => ?_) (fun hc63 => ?_)))))
                    · -- c63.t
                      refine w_seq (w_region (za rfl (wl_nil (st_tn (w_ret (st_br (st_tr (st_ret (vs := [_]) [] Try.results30 ⟨rfl, trivial⟩ rfl ?_))))))))
                      refine ⟨_, rfl, ?_⟩
                      unfold chkE; rw [if_neg hc3, if_neg hc19, if_neg hc28, if_neg hc49, if_neg (by omega), if_pos (by omega)]; exact ⟨rfl, rfl⟩
                    · -- c63.f
                      refine w_seq (w_region (zd rfl (op_fieldAddr (off := 6) rfl tF48_5h) (zd rfl (op_load1 rfl tO25h (Ent.lab (l := 1) rfl (says_cel 6))) (zd rfl (op_fn Try.func57 rfl rfl rfl (containsFuncI (fs := []) (cs := []) (p := fun x => decide (x < 0 ∨ x > 1099511627776)) (Sl.app h _) Try.func60 rfl rfl (fun X r => badv_any r))) (za rfl (wl_nil (st_tn (w_cond rfl (fun hc71 => ?_) (fun hc71 => ?_)))))))))
                      · -- c71.t
                        refine w_seq (w_region (za rfl (wl_nil (st_tn (w_ret (st_br (st_tr (st_ret (vs := [_]) [] Try.results30 ⟨rfl, trivial⟩ rfl ?_))))))))
                        refine ⟨_, rfl, ?_⟩
                        unfold chkE; rw [if_neg hc3, if_neg hc19, if_neg hc28, if_neg hc49, if_neg (by omega), if_neg (by omega), if_pos hc71]; exact ⟨rfl, rfl⟩
                      · -- c71.f
                        refine w_skip (st_bn (st_tn (w_seq (w_region (za rfl (wl_nil (st_tn (w_ret (st_ret (vs := [_]) [] Try.results30 ⟨rfl, trivial⟩ rfl ?_)))))))))
                        refine ⟨_, rfl, ?_⟩
                        unfold chkE; rw [if_neg hc3, if_neg hc19, if_neg hc28, if_neg hc49, if_neg (by omega), if_neg (by omega), if_neg (by rw [hc71]; simp)]; exact ⟨rfl, rfl⟩
def sameK (k m : SK) : Prop := k.svc = m.svc ∧ k.op = m.op ∧ k.met = m.met ∧ (k.qn, k.qd) = (m.qn, m.qd)
instance (k m : SK) : Decidable (sameK k m) := by unfold sameK; infer_instance
theorem sameK_eq {k m : SK} : sameK k m ↔ k = m := by
  unfold sameK
  constructor
  · rintro ⟨h1, h2, h3, h4⟩; cases k; cases m; simp_all
  · rintro rfl; exact ⟨rfl, rfl, rfl, rfl⟩
set_option maxHeartbeats 400000 in
set_option maxRecDepth 100000 in
theorem same_any {σ : World} {F : List Res} {v w : Value} (k m : SK) (fr fr' : Int) :
    FnT Try.prog σ F 31 [sr k fr v, sr m fr' w] [] (fun u ρ => u = .bool (decide (sameK k m)) ∧ ρ = []) := by
  refine fn_of 31 Try.func31 rfl Try.ntmps31 rfl ?_
  refine w_seq (w_region (wl_op [] rfl rfl rfl rfl (op_box (T := 48) (l := 2) rfl) ?_))
  rintro _ _ ⟨b2, rfl, rfl⟩
  refine wl_op [] rfl rfl rfl rfl (op_box (T := 48) (l := 3) rfl) ?_
  rintro _ _ ⟨b3, rfl, rfl⟩
  refine za rfl (wl_nil (st_tn (w_seq (w_region (zd rfl (op_fieldAddr (off := 0) rfl tF48_0h) (zd rfl (op_load1 rfl tO9h (Ent.lab (l := 2) rfl (says_cel 0))) (zd rfl (op_fieldAddr (off := 0) rfl tF48_0h) (zd rfl (op_load1 rfl tO9h (Ent.lab (l := 3) rfl (says_cel 0))) (zd rfl (op_eqStr rfl rfl) (zm rfl (wl_gsplit (t := 10) rfl (fun hg10 => ?_) (fun hg10 => ?_))))))))))))
  · -- 10 is True
    refine wl_wanted_det rfl rfl rfl rfl rfl rfl rfl (op_fieldAddr (off := 1) rfl tF48_1h) (wl_wanted_det rfl rfl rfl rfl rfl rfl rfl (op_load1 rfl tO9h (Ent.lab (l := 2) rfl (says_cel 1))) (wl_wanted_det rfl rfl rfl rfl rfl rfl rfl (op_fieldAddr (off := 1) rfl tF48_1h) (wl_wanted_det rfl rfl rfl rfl rfl rfl rfl (op_load1 rfl tO9h (Ent.lab (l := 3) rfl (says_cel 1))) (wl_wanted_det rfl rfl rfl rfl rfl rfl rfl (op_eqStr rfl rfl) (zd rfl (op_pick_t rfl rfl) (zm rfl (wl_gsplit (t := 17) rfl (fun hg17 => ?_) (fun hg17 => ?_))))))))
    · -- 17 is True
      refine wl_wanted_det rfl rfl rfl rfl rfl rfl rfl (op_fieldAddr (off := 2) rfl tF48_2h) (wl_wanted_det rfl rfl rfl rfl rfl rfl rfl (op_load1 rfl tO3h (Ent.lab (l := 2) rfl (says_cel 2))) (wl_wanted_det rfl rfl rfl rfl rfl rfl rfl (op_fieldAddr (off := 2) rfl tF48_2h) (wl_wanted_det rfl rfl rfl rfl rfl rfl rfl (op_load1 rfl tO3h (Ent.lab (l := 3) rfl (says_cel 2))) (wl_wanted_det rfl rfl rfl rfl rfl rfl rfl (op_eql rfl rfl) (zd rfl (op_pick_t rfl rfl) (zm rfl (wl_gsplit (t := 24) rfl (fun hg24 => ?_) (fun hg24 => ?_))))))))
      · -- 24 is True
        refine wl_wanted_det rfl rfl rfl rfl rfl rfl rfl (op_fieldAddr (off := 3) rfl tF48_3h) (wl_wanted_det rfl rfl rfl rfl rfl rfl rfl (op_loadA rfl tA24h (Ent.lab (l := 2) rfl (says_cel 3)) (Nat.le_of_ble_eq_true rfl)) (wl_wanted_det rfl rfl rfl rfl rfl rfl rfl (op_fieldAddr (off := 3) rfl tF48_3h) (wl_wanted_det rfl rfl rfl rfl rfl rfl rfl (op_loadA rfl tA24h (Ent.lab (l := 3) rfl (says_cel 3)) (Nat.le_of_ble_eq_true rfl)) (wl_wanted_det rfl rfl rfl rfl rfl rfl rfl (op_eqA rfl rfl tG24h (eq24 _ _ _ _)) (zd rfl (op_pick_t rfl rfl) (za rfl (wl_nil (st_tn (w_ret (st_ret (vs := [_]) [] Try.results31 ⟨rfl, trivial⟩ rfl ?_))))))))))
        refine ⟨_, rfl, ?_⟩
        refine ⟨?_, rfl⟩
        unfold sameK
        first | (simp [retv, *]; done) | (simp_all [retv]; done)
      · -- 24 is False
        refine wl_unwanted rfl rfl rfl rfl rfl rfl rfl rfl (wl_unwanted rfl rfl rfl rfl rfl rfl rfl rfl (wl_unwanted rfl rfl rfl rfl rfl rfl rfl rfl (wl_unwanted rfl rfl rfl rfl rfl rfl rfl rfl (wl_unwanted rfl rfl rfl rfl rfl rfl rfl rfl (zd rfl (op_pick_f rfl rfl) (za rfl (wl_nil (st_tn (w_ret (st_ret (vs := [_]) [] Try.results31 ⟨rfl, trivial⟩ rfl ?_))))))))))
        refine ⟨_, rfl, ?_⟩
        refine ⟨?_, rfl⟩
        unfold sameK
        first | (simp [retv, *]; done) | (simp_all [retv]; done)
    · -- 17 is False
      refine wl_unwanted rfl rfl rfl rfl rfl rfl rfl rfl (wl_unwanted rfl rfl rfl rfl rfl rfl rfl rfl (wl_unwanted rfl rfl rfl rfl rfl rfl rfl rfl (wl_unwanted rfl rfl rfl rfl rfl rfl rfl rfl (wl_unwanted rfl rfl rfl rfl rfl rfl rfl rfl (zd rfl (op_pick_f rfl rfl) (zm rfl (wl_unwanted rfl rfl rfl rfl rfl rfl rfl rfl (wl_unwanted rfl rfl rfl rfl rfl rfl rfl rfl (wl_unwanted rfl rfl rfl rfl rfl rfl rfl rfl (wl_unwanted rfl rfl rfl rfl rfl rfl rfl rfl (wl_unwanted rfl rfl rfl rfl rfl rfl rfl rfl (zd rfl (op_pick_f rfl rfl) (za rfl ?_)))))))))))))
      refine wl_nil (st_tn (w_ret (st_ret (vs := [_]) [] Try.results31 ⟨rfl, trivial⟩ rfl ?_)))
      refine ⟨_, rfl, ?_⟩
      refine ⟨?_, rfl⟩
      unfold sameK
      first | (simp [retv, *]; done) | (simp_all [retv]; done)
  · -- 10 is False
    refine wl_unwanted rfl rfl rfl rfl rfl rfl rfl rfl (wl_unwanted rfl rfl rfl rfl rfl rfl rfl rfl (wl_unwanted rfl rfl rfl rfl rfl rfl rfl rfl (wl_unwanted rfl rfl rfl rfl rfl rfl rfl rfl (wl_unwanted rfl rfl rfl rfl rfl rfl rfl rfl (zd rfl (op_pick_f rfl rfl) (zm rfl (wl_unwanted rfl rfl rfl rfl rfl rfl rfl rfl (wl_unwanted rfl rfl rfl rfl rfl rfl rfl rfl (wl_unwanted rfl rfl rfl rfl rfl rfl rfl rfl (wl_unwanted rfl rfl rfl rfl rfl rfl rfl rfl (wl_unwanted rfl rfl rfl rfl rfl rfl rfl rfl (zd rfl (op_pick_f rfl rfl) (zm rfl ?_)))))))))))))
    refine wl_unwanted rfl rfl rfl rfl rfl rfl rfl rfl (wl_unwanted rfl rfl rfl rfl rfl rfl rfl rfl (wl_unwanted rfl rfl rfl rfl rfl rfl rfl rfl (wl_unwanted rfl rfl rfl rfl rfl rfl rfl rfl (wl_unwanted rfl rfl rfl rfl rfl rfl rfl rfl (zd rfl (op_pick_f rfl rfl) (za rfl (wl_nil (st_tn (w_ret (st_ret (vs := [_]) [] Try.results31 ⟨rfl, trivial⟩ rfl ?_))))))))))
    refine ⟨_, rfl, ?_⟩
    refine ⟨?_, rfl⟩
    unfold sameK
    first | (simp [retv, *]; done) | (simp_all [retv]; done)
set_option maxHeartbeats 400000 in
set_option maxRecDepth 100000 in
theorem alike_any {σ : World} {F : List Res} {v w : Value} (k m : SK) (fr fr' : Int) :
    FnT Try.prog σ F 32 [sr k fr v, sr m fr' w] [] (fun u ρ => u = .bool (decide (sameK k m)) ∧ ρ = []) := by
  refine fn_of 31 Try.func32 rfl Try.ntmps32 rfl ?_
  refine w_seq (w_region (wl_op [] rfl rfl rfl rfl (op_box (T := 48) (l := 2) rfl) ?_))
  rintro _ _ ⟨b2, rfl, rfl⟩
  refine wl_op [] rfl rfl rfl rfl (op_box (T := 48) (l := 3) rfl) ?_
  rintro _ _ ⟨b3, rfl, rfl⟩
  refine za rfl (wl_nil (st_tn (w_seq (w_region (zd rfl (op_fieldAddr (off := 0) rfl tF48_0h) (zd rfl (op_load1 rfl tO9h (Ent.lab (l := 2) rfl (says_cel 0))) (zd rfl (op_fieldAddr (off := 0) rfl tF48_0h) (zd rfl (op_load1 rfl tO9h (Ent.lab (l := 3) rfl (says_cel 0))) (zd rfl (op_eqStr rfl rfl) (zm rfl (wl_gsplit (t := 10) rfl (fun hg10 => ?_) (fun hg10 => ?_))))))))))))
  · -- 10 is True
    refine wl_wanted_det rfl rfl rfl rfl rfl rfl rfl (op_fieldAddr (off := 1) rfl tF48_1h) (wl_wanted_det rfl rfl rfl rfl rfl rfl rfl (op_load1 rfl tO9h (Ent.lab (l := 2) rfl (says_cel 1))) (wl_wanted_det rfl rfl rfl rfl rfl rfl rfl (op_fieldAddr (off := 1) rfl tF48_1h) (wl_wanted_det rfl rfl rfl rfl rfl rfl rfl (op_load1 rfl tO9h (Ent.lab (l := 3) rfl (says_cel 1))) (wl_wanted_det rfl rfl rfl rfl rfl rfl rfl (op_eqStr rfl rfl) (zd rfl (op_pick_t rfl rfl) (zm rfl (wl_gsplit (t := 17) rfl (fun hg17 => ?_) (fun hg17 => ?_))))))))
    · -- 17 is True
      refine wl_wanted_det rfl rfl rfl rfl rfl rfl rfl (op_fieldAddr (off := 2) rfl tF48_2h) (wl_wanted_det rfl rfl rfl rfl rfl rfl rfl (op_load1 rfl tO3h (Ent.lab (l := 2) rfl (says_cel 2))) (wl_wanted_det rfl rfl rfl rfl rfl rfl rfl (op_fieldAddr (off := 2) rfl tF48_2h) (wl_wanted_det rfl rfl rfl rfl rfl rfl rfl (op_load1 rfl tO3h (Ent.lab (l := 3) rfl (says_cel 2))) (wl_wanted_det rfl rfl rfl rfl rfl rfl rfl (op_eql rfl rfl) (zd rfl (op_pick_t rfl rfl) (zm rfl (wl_gsplit (t := 24) rfl (fun hg24 => ?_) (fun hg24 => ?_))))))))
      · -- 24 is True
        refine wl_wanted_det rfl rfl rfl rfl rfl rfl rfl (op_fieldAddr (off := 3) rfl tF48_3h) (wl_wanted_det rfl rfl rfl rfl rfl rfl rfl (op_loadA rfl tA24h (Ent.lab (l := 2) rfl (says_cel 3)) (Nat.le_of_ble_eq_true rfl)) (wl_wanted_det rfl rfl rfl rfl rfl rfl rfl (op_fieldAddr (off := 3) rfl tF48_3h) (wl_wanted_det rfl rfl rfl rfl rfl rfl rfl (op_loadA rfl tA24h (Ent.lab (l := 3) rfl (says_cel 3)) (Nat.le_of_ble_eq_true rfl)) (wl_wanted_det rfl rfl rfl rfl rfl rfl rfl (op_eqA rfl rfl tG24h (eq24 _ _ _ _)) (zd rfl (op_pick_t rfl rfl) (za rfl (wl_nil (st_tn (w_ret (st_ret (vs := [_]) [] Try.results32 ⟨rfl, trivial⟩ rfl ?_))))))))))
        refine ⟨_, rfl, ?_⟩
        refine ⟨?_, rfl⟩
        unfold sameK
        first | (simp [retv, *]; done) | (simp_all [retv]; done)
      · -- 24 is False
        refine wl_unwanted rfl rfl rfl rfl rfl rfl rfl rfl (wl_unwanted rfl rfl rfl rfl rfl rfl rfl rfl (wl_unwanted rfl rfl rfl rfl rfl rfl rfl rfl (wl_unwanted rfl rfl rfl rfl rfl rfl rfl rfl (wl_unwanted rfl rfl rfl rfl rfl rfl rfl rfl (zd rfl (op_pick_f rfl rfl) (za rfl (wl_nil (st_tn (w_ret (st_ret (vs := [_]) [] Try.results32 ⟨rfl, trivial⟩ rfl ?_))))))))))
        refine ⟨_, rfl, ?_⟩
        refine ⟨?_, rfl⟩
        unfold sameK
        first | (simp [retv, *]; done) | (simp_all [retv]; done)
    · -- 17 is False
      refine wl_unwanted rfl rfl rfl rfl rfl rfl rfl rfl (wl_unwanted rfl rfl rfl rfl rfl rfl rfl rfl (wl_unwanted rfl rfl rfl rfl rfl rfl rfl rfl (wl_unwanted rfl rfl rfl rfl rfl rfl rfl rfl (wl_unwanted rfl rfl rfl rfl rfl rfl rfl rfl (zd rfl (op_pick_f rfl rfl) (zm rfl (wl_unwanted rfl rfl rfl rfl rfl rfl rfl rfl (wl_unwanted rfl rfl rfl rfl rfl rfl rfl rfl (wl_unwanted rfl rfl rfl rfl rfl rfl rfl rfl (wl_unwanted rfl rfl rfl rfl rfl rfl rfl rfl (wl_unwanted rfl rfl rfl rfl rfl rfl rfl rfl (zd rfl (op_pick_f rfl rfl) (za rfl ?_)))))))))))))
      refine wl_nil (st_tn (w_ret (st_ret (vs := [_]) [] Try.results32 ⟨rfl, trivial⟩ rfl ?_)))
      refine ⟨_, rfl, ?_⟩
      refine ⟨?_, rfl⟩
      unfold sameK
      first | (simp [retv, *]; done) | (simp_all [retv]; done)
  · -- 10 is False
    refine wl_unwanted rfl rfl rfl rfl rfl rfl rfl rfl (wl_unwanted rfl rfl rfl rfl rfl rfl rfl rfl (wl_unwanted rfl rfl rfl rfl rfl rfl rfl rfl (wl_unwanted rfl rfl rfl rfl rfl rfl rfl rfl (wl_unwanted rfl rfl rfl rfl rfl rfl rfl rfl (zd rfl (op_pick_f rfl rfl) (zm rfl (wl_unwanted rfl rfl rfl rfl rfl rfl rfl rfl (wl_unwanted rfl rfl rfl rfl rfl rfl rfl rfl (wl_unwanted rfl rfl rfl rfl rfl rfl rfl rfl (wl_unwanted rfl rfl rfl rfl rfl rfl rfl rfl (wl_unwanted rfl rfl rfl rfl rfl rfl rfl rfl (zd rfl (op_pick_f rfl rfl) (zm rfl ?_)))))))))))))
    refine wl_unwanted rfl rfl rfl rfl rfl rfl rfl rfl (wl_unwanted rfl rfl rfl rfl rfl rfl rfl rfl (wl_unwanted rfl rfl rfl rfl rfl rfl rfl rfl (wl_unwanted rfl rfl rfl rfl rfl rfl rfl rfl (wl_unwanted rfl rfl rfl rfl rfl rfl rfl rfl (zd rfl (op_pick_f rfl rfl) (za rfl (wl_nil (st_tn (w_ret (st_ret (vs := [_]) [] Try.results32 ⟨rfl, trivial⟩ rfl ?_))))))))))
    refine ⟨_, rfl, ?_⟩
    refine ⟨?_, rfl⟩
    unfold sameK
    first | (simp [retv, *]; done) | (simp_all [retv]; done)
set_option maxHeartbeats 400000 in
set_option maxRecDepth 100000 in
theorem lsame_any {σ : World} {F : List Res} {a b : Option Addr} {c d : Nat} {l m : List Int} (k k' : SK) (fr fr' : Int) (h : Sl σ F encZ 1 (.slice a l.length c) l) (g : Sl σ F encZ 1 (.slice b m.length d) m) :
    FnT Try.prog σ F 27 [sr k fr (.slice a l.length c), sr k' fr' (.slice b m.length d)] [] (fun u ρ => u = .bool (decide (sameK k k' ∧ fr = fr' ∧ l = m)) ∧ ρ = []) := by
  refine fn_of 22 Try.func27 rfl Try.ntmps27 rfl ?_
  refine w_seq (w_region (wl_op [] rfl rfl rfl rfl (op_box (T := 48) (l := 2) rfl) ?_))
  rintro _ _ ⟨b2, rfl, rfl⟩
  refine wl_op [] rfl rfl rfl rfl (op_box (T := 48) (l := 3) rfl) ?_
  rintro _ _ ⟨b3, rfl, rfl⟩
  refine za rfl (wl_nil (st_tn (w_seq (w_region (zd rfl (op_loadA rfl tA48h (Ent.lab (l := 2) rfl (says_cel 0)) (Nat.le_of_ble_eq_true rfl)) (zd rfl (op_loadA rfl tA48h (Ent.lab (l := 3) rfl (says_cel 0)) (Nat.le_of_ble_eq_true rfl)) (zd rfl (op_fn Try.func32 rfl rfl rfl (alike_any _ _ _ _)) (zm rfl (wl_gsplit (t := 8) rfl (fun hg8 => ?_) (fun hg8 => ?_))))))))))
  · -- 8 is True
    refine wl_wanted_det rfl rfl rfl rfl rfl rfl rfl (op_fieldAddr (off := 5) rfl tF48_4h) (wl_wanted_det rfl rfl rfl rfl rfl rfl rfl (op_load1 rfl tO3h (Ent.lab (l := 2) rfl (says_cel 5))) (wl_wanted_det rfl rfl rfl rfl rfl rfl rfl (op_fieldAddr (off := 5) rfl tF48_4h) (wl_wanted_det rfl rfl rfl rfl rfl rfl rfl (op_load1 rfl tO3h (Ent.lab (l := 3) rfl (says_cel 5))) (wl_wanted_det rfl rfl rfl rfl rfl rfl rfl (op_eql rfl rfl) (zd rfl (op_pick_t rfl rfl) (zm rfl (wl_gsplit (t := 15) rfl (fun hg15 => ?_) (fun hg15 => ?_))))))))
    · -- 15 is True
      refine wl_wanted_det rfl rfl rfl rfl rfl rfl rfl (op_fieldAddr (off := 6) rfl tF48_5h) (wl_wanted_det rfl rfl rfl rfl rfl rfl rfl (op_load1 rfl tO25h (Ent.lab (l := 2) rfl (says_cel 6))) (wl_wanted_det rfl rfl rfl rfl rfl rfl rfl (op_fieldAddr (off := 6) rfl tF48_5h) (wl_wanted_det rfl rfl rfl rfl rfl rfl rfl (op_load1 rfl tO25h (Ent.lab (l := 3) rfl (says_cel 6))) (wl_wanted_det rfl rfl rfl rfl rfl rfl rfl (op_fn Try.func22 rfl rfl rfl (ints_any (Sl.app h _) (Sl.app g _))) (zd rfl (op_pick_t rfl rfl) (za rfl (wl_nil (st_tn (w_ret (st_ret (vs := [_]) [] Try.results27 ⟨rfl, trivial⟩ rfl ?_))))))))))
      refine ⟨_, rfl, ?_⟩
      refine ⟨?_, rfl⟩
      first | (simp [retv, *]; done) | (simp_all [retv]; done)
    · -- 15 is False
      refine wl_unwanted rfl rfl rfl rfl rfl rfl rfl rfl (wl_unwanted rfl rfl rfl rfl rfl rfl rfl rfl (wl_unwanted rfl rfl rfl rfl rfl rfl rfl rfl (wl_unwanted rfl rfl rfl rfl rfl rfl rfl rfl (wl_unwanted rfl rfl rfl rfl rfl rfl rfl rfl (zd rfl (op_pick_f rfl rfl) (za rfl (wl_nil (st_tn (w_ret (st_ret (vs := [_]) [] Try.results27 ⟨rfl, trivial⟩ rfl ?_))))))))))
      refine ⟨_, rfl, ?_⟩
      refine ⟨?_, rfl⟩
      first | (simp [retv, *]; done) | (simp_all [retv]; done)
  · -- 8 is False
    refine wl_unwanted rfl rfl rfl rfl rfl rfl rfl rfl (wl_unwanted rfl rfl rfl rfl rfl rfl rfl rfl (wl_unwanted rfl rfl rfl rfl rfl rfl rfl rfl (wl_unwanted rfl rfl rfl rfl rfl rfl rfl rfl (wl_unwanted rfl rfl rfl rfl rfl rfl rfl rfl (zd rfl (op_pick_f rfl rfl) (zm rfl (wl_unwanted rfl rfl rfl rfl rfl rfl rfl rfl (wl_unwanted rfl rfl rfl rfl rfl rfl rfl rfl (wl_unwanted rfl rfl rfl rfl rfl rfl rfl rfl (wl_unwanted rfl rfl rfl rfl rfl rfl rfl rfl (wl_unwanted rfl rfl rfl rfl rfl rfl rfl rfl (zd rfl (op_pick_f rfl rfl) (za rfl ?_)))))))))))))
    refine wl_nil (st_tn (w_ret (st_ret (vs := [_]) [] Try.results27 ⟨rfl, trivial⟩ rfl ?_)))
    refine ⟨_, rfl, ?_⟩
    refine ⟨?_, rfl⟩
    first | (simp [retv, *]; done) | (simp_all [retv]; done)
end Go.Proofs.Ytbgddblfalahfaa
namespace Go.Proofs.Ytbgddblfalahfaa
open Go Go.SL Go.RowKit
set_option linter.unusedVariables false
set_option linter.unusedSimpArgs false
theorem svc_ok (x : Int) : nameP (svcL.getD (x % 4).toNat .empty) := by
  have h : (x % 4).toNat < 4 := by omega
  generalize (x % 4).toNat = n at h
  rcases n with _ | _ | _ | _ | n
  all_goals first | omega | decide +kernel
theorem op_ok (x : Int) : opL.getD (x % 4).toNat .empty = ⟨#[]⟩ ∨ nameP (opL.getD (x % 4).toNat .empty) := by
  have h : (x % 4).toNat < 4 := by omega
  generalize (x % 4).toNat = n at h
  rcases n with _ | _ | _ | _ | n
  all_goals first | omega | decide +kernel
theorem q_ok (x : Int) : goodB (mkF (1 + x % 10) 10).1 (mkF (1 + x % 10) 10).2.1 := by
  have h : (x % 10).toNat < 10 := by omega
  rw [show x % 10 = ((x % 10).toNat : Int) by omega]
  generalize (x % 10).toNat = n at h
  rcases n with _ | _ | _ | _ | _ | _ | _ | _ | _ | _ | n
  all_goals first | omega | decide +kernel
structure GK (k : SK) : Prop where
  svc : k.svc.size ≤ maxLen
  op : k.op.size ≤ maxLen
  q1 : -9223372036854775808 ≤ k.qn ∧ k.qn ≤ 9223372036854775807
  q2 : -9223372036854775808 ≤ k.qd ∧ k.qd ≤ 9223372036854775807
  met : 1 ≤ k.met ∧ k.met ≤ 3
  n1 : nameP k.svc
  n2 : k.op = ⟨#[]⟩ ∨ nameP k.op
  q : (k.met = 3 → goodB k.qn k.qd) ∧ (k.met ≠ 3 → (k.qn, k.qd) = (0, 0))
theorem name_len {s : ByteArray} (h : nameP s) : s.size ≤ maxLen := by have := h.1.2; unfold maxLen; omega
theorem kG_ok (a b c d : Int) : GK (kG a b c d) := by
  have h1 := svc_ok a
  have h2 := op_ok b
  have h3 := q_ok d
  have h4 := goodB_bd h3
  have h5 : (opL.getD (b % 4).toNat .empty).size ≤ maxLen := by
    rcases h2 with h2 | h2
    · rw [h2]; decide
    · exact name_len h2
  unfold kG
  refine ⟨name_len h1, h5, ?_, ?_, ?_, h1, h2, ?_, ?_⟩
  · dsimp only; split <;> omega
  · dsimp only; split <;> omega
  · dsimp only; omega
  · intro h; dsimp only at h ⊢; rw [if_pos h, if_pos h]; exact h3
  · intro h; dsimp only at h ⊢; rw [if_neg h, if_neg h]
theorem chk_ok {k : SK} (h : GK k) {fr : Int} {l : List Int} (hl : l.length ≤ 1024) (hv : ∀ x ∈ l, 0 ≤ x ∧ x ≤ 1099511627776) : chkE k fr l = 0 ↔ 0 ≤ fr ∧ fr ≤ 1048576 ∧ fr + l.length ≤ 1048577 := by
  unfold chkE
  have hm := h.met
  rw [if_neg (fun h1 => by rcases h1 with h1 | ⟨h1, h2⟩; (· exact h1 h.n1); (· exact h.n2.elim h1 h2)), if_neg (by omega),
    if_neg (fun h1 => by rcases h1 with ⟨h1, h2⟩ | ⟨h1, h2⟩; (· exact h2 (h.q.1 h1)); (· exact h2 (h.q.2 h1)))]
  by_cases h1 : fr < 0 ∨ fr > 1048576
  · rw [if_pos h1]; constructor <;> intro h2 <;> omega
  · rw [if_neg h1, if_neg (by omega)]
    by_cases h2 : fr + l.length > 1048577
    · rw [if_pos h2]; constructor <;> intro h2 <;> omega
    · rw [if_neg h2, if_neg (fun h3 => by obtain ⟨x, hx, h4⟩ := List.any_eq_true.1 h3; have := hv x hx; have := of_decide_eq_true h4; omega)]
      constructor <;> intro h2 <;> omega
end Go.Proofs.Ytbgddblfalahfaa
namespace Go.Proofs.Ytbgddblfalahfaa
open Go Go.SL Go.RowKit
set_option linter.unusedVariables false
set_option linter.unusedSimpArgs false
end Go.Proofs.Ytbgddblfalahfaa
namespace Go.Proofs.Ytbgddblfalahfaa
open Go Go.SL Go.RowKit
set_option linter.unusedVariables false
set_option linter.unusedSimpArgs false
end Go.Proofs.Ytbgddblfalahfaa
namespace Go.Proofs.Ytbgddblfalahfaa
open Go Go.SL Go.RowKit
set_option linter.unusedVariables false
set_option linter.unusedSimpArgs false
theorem tA37l : aggB Try.prog 37 2 = true := by kernel_rfl
theorem tA48l : aggB Try.prog 48 7 = true := by kernel_rfl
theorem tB37l : placesB Try.prog 37 = some ([(0, 1), (1, 1)], [Value.int .i64 0, Value.int .i64 0]) := by kernel_rfl
theorem tB48l : placesB Try.prog 48 = some ([(0, 1), (1, 1), (2, 1), (3, 2), (5, 1), (6, 1)], [Value.string .empty, Value.string .empty, Value.int .i64 0, Value.int .i64 0, Value.int .i64 0, Value.int .i64 0, Value.slice none 0 0]) := by kernel_rfl
theorem tF48_4l : fieldB Try.prog 48 4 5 = true := by kernel_rfl
theorem tF48_5l : fieldB Try.prog 48 5 6 = true := by kernel_rfl
theorem tMixl : Try.prog.follows .mixedOrders = true := by kernel_rfl
theorem tN37l : (Try.prog.info? 37).bind (·.zero) = some (Value.agg #[Value.int .i64 0, Value.int .i64 0]) := by kernel_rfl
theorem tN48l : (Try.prog.info? 48).bind (·.zero) = some (Value.agg #[Value.string .empty, Value.string .empty, Value.int .i64 0, Value.int .i64 0, Value.int .i64 0, Value.int .i64 0, Value.slice none 0 0]) := by kernel_rfl
theorem tO25l : oneB Try.prog 25 = true := by kernel_rfl
theorem tO3l : oneB Try.prog 3 = true := by kernel_rfl
theorem tS25l : sliceB Try.prog 25 3 1 = true := by kernel_rfl
theorem tZ37l : (Try.prog.info? 37).map (·.size) = some 2 := by kernel_rfl
theorem tZ48l : (Try.prog.info? 48).map (·.size) = some 7 := by kernel_rfl
set_option maxHeartbeats 400000 in
set_option maxRecDepth 100000 in
theorem slots_any {σ : World} {F : List Res} {a : Option Addr} {c : Nat} {l : List Int} (k : SK) (fr : Int) (h : Sl σ F encZ 1 (.slice a l.length c) l) (hl : l.length ≤ 1048576) (hf : -1099511627776 ≤ fr ∧ fr ≤ 1099511627776) :
    FnT Try.prog σ F 45 [sr k fr (.slice a l.length c)] [] (fun u ρ => u = .agg #[.int .i64 fr, .int .i64 (fr + l.length)] ∧ ρ = []) := by
  refine fn_of 12 Try.func45 rfl Try.ntmps45 rfl ?_
  refine w_seq (w_region (wl_op [] rfl rfl rfl rfl (op_box (T := 48) (l := 1) rfl) ?_))
  rintro _ _ ⟨b1, rfl, rfl⟩
  refine wl_op [] rfl rfl rfl rfl (op_alloc (l := 2) tN37l) ?_
  rintro _ _ ⟨b2, rfl, rfl⟩
  refine wl_nil (st_tn (w_seq (w_region (zd rfl (op_fieldAddr (off := 5) rfl tF48_4l) (zd rfl (op_load1 rfl tO3l (Ent.lab (l := 1) rfl (says_cel 5))) (zd rfl (op_fieldAddr (off := 5) rfl tF48_4l) (zd rfl (op_load1 rfl tO3l (Ent.lab (l := 1) rfl (says_cel 5))) (zd rfl (op_fieldAddr (off := 6) rfl tF48_5l) (zd rfl (op_load1 rfl tO25l (Ent.lab (l := 1) rfl (says_cel 6))) (zd rfl (op_lenT rfl tS25l (Sl.ent (by first | exact Sl.app (by assumption) _ | exact Sl.app (Sl.app (by assumption) _) _))) ?_))))))))))
  refine zd rfl (op_add' rfl rfl (by omega)) ?_
  refine zd rfl (op_build tB37l rfl rfl) (wl_op0 [2] rfl rfl rfl (op_store rfl rfl tZ37l (by rfl) (by rfl) (by exact Nat.le_of_ble_eq_true rfl)) ?_)
  rintro _ _ ⟨rfl, rfl⟩
  refine wl_nil (st_tn (w_ret (st_ret (vs := [_]) [] Try.results45 ⟨⟨_, rfl, Ent.mono (Ent.lab (l := 2) rfl (says_cel 0)) (fun _ h => run_load_agg tA37l h (Nat.le_of_ble_eq_true rfl))⟩, trivial⟩ rfl ?_)))
  refine ⟨_, rfl, ?_⟩
  exact ⟨rfl, rfl⟩
def atV (l : List Int) (fr x : Int) : Int := if fr ≤ x ∧ x < fr + l.length then l.getD (x - fr).toNat 0 else 0
set_option maxHeartbeats 400000 in
set_option maxRecDepth 100000 in
theorem at_any {σ : World} {F : List Res} {a : Option Addr} {c : Nat} {l : List Int} (k : SK) (fr x : Int) (h : Sl σ F encZ 1 (.slice a l.length c) l) (hl : l.length ≤ 1048576) (hf : -1099511627776 ≤ fr ∧ fr ≤ 1099511627776) (hx : -9223372036854775808 ≤ x ∧ x ≤ 9223372036854775807) :
    FnT Try.prog σ F 43 [sr k fr (.slice a l.length c), .int .i64 x] [] (fun u ρ => u = .tuple #[.int .i64 (atV l fr x), .bool (decide (fr ≤ x ∧ x < fr + l.length))] ∧ ρ = []) := by
  refine fn_of 28 Try.func43 rfl Try.ntmps43 rfl ?_
  have hle := h.i64
  refine w_seq (w_region (wl_op [] rfl rfl rfl rfl (op_box (T := 48) (l := 2) rfl) ?_))
  rintro _ _ ⟨b2, rfl, rfl⟩
  refine za rfl (za rfl (wl_nil (st_tn (w_seq (w_seq (w_cutL [(19, .bool (decide (¬ (fr ≤ x ∧ x < fr + l.length))))] [1, 2] [2] rfl (fun K' hK => ?_) ?_))))))
  · -- cut r1
    refine w_region (zm rfl (zd rfl (op_fieldAddr (off := 5) rfl tF48_4l) (zd rfl (op_load1 rfl tO3l (Ent.lab (l := 2) rfl (says_cel 5))) (zd rfl (op_lss rfl rfl) (zm rfl (wl_gsplit (t := 10) rfl (fun hg10 => ?_) (fun hg10 => ?_)))))))
    · -- 10 is True
      refine wl_unwanted rfl rfl rfl rfl rfl rfl rfl rfl (wl_unwanted rfl rfl rfl rfl rfl rfl rfl rfl (wl_unwanted rfl rfl rfl rfl rfl rfl rfl rfl (wl_unwanted rfl rfl rfl rfl rfl rfl rfl rfl (wl_unwanted rfl rfl rfl rfl rfl rfl rfl rfl (wl_unwanted rfl rfl rfl rfl rfl rfl rfl rfl (wl_unwanted rfl rfl rfl rfl rfl rfl rfl rfl (wl_unwanted rfl rfl rfl rfl rfl rfl rfl rfl (zd rfl (op_pick_t rfl rfl) (wl_nil (st_tn ?_))))))))))
      exact cut_done1 [2] hK rfl (by first | (rw [decide_eq_decide]; omega) | (symm; rw [decide_eq_false_iff_not]; omega) | (symm; rw [decide_eq_true_iff]; omega) | (simp; done) | (simp; omega) | (simp [*]; done) | (simp [*]; omega)) (by rfl) rfl rfl
    · -- 10 is False
      refine wl_wanted_det rfl rfl rfl rfl rfl rfl rfl (op_move rfl) (wl_wanted_det rfl rfl rfl rfl rfl rfl rfl (op_fieldAddr (off := 5) rfl tF48_4l) (wl_wanted_det rfl rfl rfl rfl rfl rfl rfl (op_load1 rfl tO3l (Ent.lab (l := 2) rfl (says_cel 5))) (wl_wanted_det rfl rfl rfl rfl rfl rfl rfl (op_fieldAddr (off := 6) rfl tF48_5l) (wl_wanted_det rfl rfl rfl rfl rfl rfl rfl (op_load1 rfl tO25l (Ent.lab (l := 2) rfl (says_cel 6))) (wl_wanted_det rfl rfl rfl rfl rfl rfl rfl (op_lenT rfl tS25l (Sl.ent (by first | exact Sl.app (by assumption) _ | exact Sl.app (Sl.app (by assumption) _) _))) ?_)))))
      refine wl_wanted_det rfl rfl rfl rfl rfl rfl rfl (op_add' rfl rfl (by omega)) ?_
      refine wl_wanted_det rfl rfl rfl rfl rfl rfl rfl (op_geq rfl rfl) (zd rfl (op_pick_f rfl rfl) (wl_nil (st_tn ?_)))
      exact cut_done1 [2] hK rfl (by first | (rw [decide_eq_decide]; omega) | (symm; rw [decide_eq_false_iff_not]; omega) | (symm; rw [decide_eq_true_iff]; omega) | (simp; done) | (simp; omega) | (simp [*]; done) | (simp [*]; omega)) (by rfl) rfl rfl
  · -- behind r1
    show W _ _ _ _ _ [(19, _), (1, _), (2, _)] [(2, _)] _
    refine w_cond_d rfl (fun hc19 => ?_) (fun hc19 => ?_)
    · -- c19.t
      refine w_seq (w_region (za rfl (za rfl (wl_nil (st_tn (w_ret (st_tr (st_ret (vs := [_, _]) [] Try.results43 ⟨rfl, ⟨rfl, trivial⟩⟩ rfl ?_))))))))
      refine ⟨_, rfl, ?_⟩
      unfold atV; rw [if_neg hc19, decide_eq_false hc19]; exact ⟨rfl, rfl⟩
    · -- c19.f
      have hin : fr ≤ x ∧ x < fr + l.length := Classical.byContradiction hc19
      obtain ⟨y, hy⟩ := getE (l := l) (i := (x - fr).toNat) (by omega)
      refine w_skip (st_tn (w_seq (w_region (zd rfl (op_fieldAddr (off := 6) rfl tF48_5l) (zd rfl (op_load1 rfl tO25l (Ent.lab (l := 2) rfl (says_cel 6))) (zm rfl (zd rfl (op_fieldAddr (off := 5) rfl tF48_4l) (zd rfl (op_load1 rfl tO3l (Ent.lab (l := 2) rfl (says_cel 5))) (zd rfl (op_sub' rfl rfl (by omega)) ?_)))))))))
      refine zd rfl (op_idxZ rfl rfl tS25l (Sl.ent (by first | exact Sl.app (by assumption) _ | exact Sl.app (Sl.app (by assumption) _) _)) (by omega) (by omega)) ?_
      refine zd rfl (op_ldx rfl tO3l (by first | exact Sl.app (by assumption) _ | exact Sl.app (Sl.app (by assumption) _) _) (by assumption) (by rfl)) ?_
      refine za rfl (za rfl (wl_nil (st_tn (w_ret (st_ret (vs := [_, _]) [] Try.results43 ⟨rfl, ⟨rfl, trivial⟩⟩ rfl ?_)))))
      refine ⟨_, rfl, ?_⟩
      unfold atV; rw [if_pos hin, decide_eq_true hin, List.getD_eq_getElem?_getD, hy]; exact ⟨rfl, rfl⟩
set_option maxHeartbeats 400000 in
set_option maxRecDepth 100000 in
theorem copied_any {σ : World} {F : List Res} {a : Option Addr} {c : Nat} {l : List Int} (lab : Nat) (k : SK) (fr : Int) (h : Sl σ F encZ 1 (.slice a l.length c) l) (hl : l.length ≤ 1048576) :
    FnT Try.prog σ F 85 [sr k fr (.slice a l.length c)] [] (fun u ρ => ∃ a c, u = sr k fr (.slice a l.length c) ∧ ρ = [(lab, slW 3 encZ 1 (.slice a l.length c) l)]) := by
  refine fn_of 10 Try.func85 rfl Try.ntmps85 rfl ?_
  have hle := h.i64
  refine w_seq (w_region (wl_op [] rfl rfl rfl rfl (op_box (T := 48) (l := 1) rfl) ?_))
  rintro _ _ ⟨b1, rfl, rfl⟩
  refine wl_op [] rfl rfl rfl rfl (op_alloc (l := 2) tN48l) ?_
  rintro _ _ ⟨b2, rfl, rfl⟩
  refine wl_nil (st_tn (w_seq ?_))
  refine w_drawW (fun β => [⟨3, [], [], [], noW (_), false, [], []⟩, ⟨4, [], [], [], noW (_), false, [], []⟩, ⟨5, [1], [], [], noW (_), false, [], []⟩, ⟨6, [], [], [], noW (_), false, [], []⟩, ⟨7, [3], [], [], noW (_), false, [], []⟩, ⟨8, [4], [], [], fun w => DetW _ _, false, [], []⟩]) [] [1] [⟨3, [], [], false, [], []⟩, ⟨4, [], [], false, [], []⟩, ⟨5, [1], [], false, [], []⟩, ⟨6, [], [], false, [], []⟩, ⟨7, [3], [], false, [], []⟩, ⟨8, [4], [], false, [], []⟩] [[], [], [], [], [], []] [[], [], [], [], [], []] tMixl (fun _ => by rfl) (fun _ => by rfl) (by kernel_rfl) (by kernel_rfl) (by rfl) (by rfl)
      (fun β => ⟨.p rfl (by intro X; exact op_loadA rfl tA48l (Ent.lab (l := 1) rfl (says_cel 0)) (Nat.le_of_ble_eq_true rfl)),
      ⟨.p rfl (by intro X; exact op_fieldAddr (off := 5) rfl tF48_4l),
      ⟨.p rfl (by intro X; rintro _ _ ⟨rfl, rfl⟩; exact op_load1 rfl tO3l (Ent.lab (l := 1) rfl (says_cel 5))),
      ⟨.p rfl (by intro X; exact op_fieldAddr (off := 6) rfl tF48_5l),
      ⟨.p rfl (by intro X; rintro _ _ ⟨rfl, rfl⟩; exact op_load1 rfl tO25l (Ent.lab (l := 1) rfl (says_cel 6))),
      ⟨.px rfl (by intro X; rintro _ _ ⟨rfl, rfl⟩; refine OpT.mono (op_fn Try.func56 rfl rfl rfl (cloneI 8 (by first | exact Sl.app (by assumption) _ | exact Sl.app (Sl.app (by assumption) _) _) (by omega))) ?_; rintro _ _ ⟨a8, c8, rfl, rfl⟩; obtain ⟨w, rfl, rfl⟩ : ∃ w : Wt, w.a = a8 ∧ w.c = c8 := ⟨{ a := a8, c := c8 }, rfl, rfl⟩; exact ⟨w, rfl, rfl⟩),
      trivial⟩⟩⟩⟩⟩⟩)
      (fun β β' => ⟨fun _ => by rfl, ⟨fun _ => by rfl, ⟨fun _ => by rfl, ⟨fun _ => by rfl, ⟨fun _ => by rfl, ⟨fun _ => by rfl, trivial⟩⟩⟩⟩⟩⟩) ?_
  intro β
  rintro _ _ ⟨rfl, rfl⟩ _ _ ⟨rfl, rfl⟩ _ _ ⟨rfl, rfl⟩ _ _ ⟨rfl, rfl⟩ _ _ ⟨rfl, rfl⟩ _ _ ⟨rfl, rfl⟩
  generalize (β 5).a = a8
  generalize (β 5).c = c8
  refine wl_norm (e' := [(2, _), (3, _), (5, _), (8, _)]) (.cons rfl (.cons rfl (.cons rfl (.cons rfl (.nil _))))) (by dsimp only [cond_false, cond_true, List.nil_append, List.cons_append]) ?_
  refine zd rfl (op_fn Try.func55 rfl rfl rfl (like_any _ _ _ _ _ _ _ _ _)) (wl_op0 [2] rfl rfl rfl (op_store rfl rfl tZ48l (by rfl) (by rfl) (by exact Nat.le_of_ble_eq_true rfl)) ?_)
  rintro _ _ ⟨rfl, rfl⟩
  refine wl_nil (st_tn (w_ret (st_ret (vs := [_]) [8] Try.results85 ⟨⟨_, rfl, Ent.mono (Ent.lab (l := 2) rfl (says_cel 0)) (fun _ h => run_load_agg tA48l h (Nat.le_of_ble_eq_true rfl))⟩, trivial⟩ rfl ?_)))
  refine ⟨[(lab, _)], rfl, ?_⟩
  exact ⟨_, _, rfl, rfl⟩
def oneR (k : SK) (fr : Int) (l : List Int) (k' : SK) (fr' : Int) (m : List Int) : R × Bool := if m.length = 0 then (⟨k, fr, l, 0⟩, true) else if l.length = 0 then (⟨k', fr', m, 0⟩, true) else (zeroR 0, false)
set_option maxHeartbeats 1000000 in
set_option maxRecDepth 100000 in
theorem one_any {σ : World} {F : List Res} {a b : Option Addr} {c d : Nat} {l m : List Int} (lab : Nat) (k : SK) (fr : Int) (k' : SK) (fr' : Int) (h : Sl σ F encZ 1 (.slice a l.length c) l) (g : Sl σ F encZ 1 (.slice b m.length d) m) (hl : l.length ≤ 1048576) (hm : m.length ≤ 1048576) :
    FnT Try.prog σ F 70 [sr k fr (.slice a l.length c), sr k' fr' (.slice b m.length d)] [] (fun u ρ => ∃ r o a c, (r, o) = oneR k fr l k' fr' m ∧ u = .tuple #[sr r.k r.fr (.slice a r.vals.length c), .bool o] ∧ ρ = [(lab, slW 3 encZ 1 (.slice a r.vals.length c) r.vals)]) := by
  refine fn_of 21 Try.func70 rfl Try.ntmps70 rfl ?_
  have hle := h.i64
  have gle := g.i64
  refine w_seq (w_region (wl_op [] rfl rfl rfl rfl (op_box (T := 48) (l := 2) rfl) ?_))
  rintro _ _ ⟨b2, rfl, rfl⟩
  refine wl_op [] rfl rfl rfl rfl (op_box (T := 48) (l := 3) rfl) ?_
  rintro _ _ ⟨b3, rfl, rfl⟩
  refine wl_op [] rfl rfl rfl rfl (op_alloc (l := 4) tN48l) ?_
  rintro _ _ ⟨b4, rfl, rfl⟩
  refine za rfl (wl_nil (st_tn (w_seq (w_block (w_seq (w_region (zd rfl (op_fieldAddr (off := 6) rfl tF48_5l) (zd rfl (op_load1 rfl tO25l (Ent.lab (l := 3) rfl (says_cel 6))) (zd rfl (op_lenT rfl tS25l (Sl.ent (by first | exact Sl.app (by assumption) _ | exact Sl.app (Sl.app (by assumption) _) _))) ?_)))))))))
  refine zd rfl (op_eql rfl rfl) (za rfl (wl_nil (st_tn (w_cond_d rfl (fun hc6 => ?_) (fun hc6 => ?_)))))
  · -- c6.t
    refine w_seq (w_region (zd rfl (op_loadA rfl tA48l (Ent.lab (l := 2) rfl (says_cel 0)) (Nat.le_of_ble_eq_true rfl)) (wl_op [] rfl rfl rfl rfl (op_fn Try.func85 rfl rfl rfl (copied_any 12 _ _ (Sl.app h _) (by omega))) ?_)))
    rintro _ _ ⟨a12, c12, rfl, rfl⟩
    refine wl_op0 [4] rfl rfl rfl (op_store rfl rfl tZ48l (by rfl) (by rfl) (by exact Nat.le_of_ble_eq_true rfl)) ?_
    rintro _ _ ⟨rfl, rfl⟩
    refine za rfl (wl_nil (st_tn (w_ret (st_br (st_tr (st_ret (vs := [_, _]) [12] Try.results70 ⟨⟨_, rfl, Ent.mono (Ent.lab (l := 4) rfl (says_cel 0)) (fun _ h => run_load_agg tA48l h (Nat.le_of_ble_eq_true rfl))⟩, ⟨rfl, trivial⟩⟩ rfl ?_))))))
    refine ⟨[(lab, _)], rfl, ?_⟩
    exact ⟨⟨k, fr, l, 0⟩, true, _, _, by unfold oneR; rw [if_pos (by omega)], rfl, rfl⟩
  · -- c6.f
    refine w_seq (w_region (zd rfl (op_fieldAddr (off := 6) rfl tF48_5l) (zd rfl (op_load1 rfl tO25l (Ent.lab (l := 2) rfl (says_cel 6))) (zd rfl (op_lenT rfl tS25l (Sl.ent (by first | exact Sl.app (by assumption) _ | exact Sl.app (Sl.app (by assumption) _) _))) ?_))))
    refine zd rfl (op_eql rfl rfl) (za rfl (wl_nil (st_tn (w_cond_d rfl (fun hc13 => ?_) (fun hc13 => ?_)))))
    · -- c13.t
      refine w_seq (w_region (zd rfl (op_loadA rfl tA48l (Ent.lab (l := 3) rfl (says_cel 0)) (Nat.le_of_ble_eq_true rfl)) (wl_op [] rfl rfl rfl rfl (op_fn Try.func85 rfl rfl rfl (copied_any 19 _ _ (Sl.app g _) (by omega))) ?_)))
      rintro _ _ ⟨a19, c19, rfl, rfl⟩
      refine wl_op0 [4] rfl rfl rfl (op_store rfl rfl tZ48l (by rfl) (by rfl) (by exact Nat.le_of_ble_eq_true rfl)) ?_
      rintro _ _ ⟨rfl, rfl⟩
      refine za rfl (wl_nil (st_tn (w_ret (st_br (st_tr (st_ret (vs := [_, _]) [19] Try.results70 ⟨⟨_, rfl, Ent.mono (Ent.lab (l := 4) rfl (says_cel 0)) (fun _ h => run_load_agg tA48l h (Nat.le_of_ble_eq_true rfl))⟩, ⟨rfl, trivial⟩⟩ rfl ?_))))))
      refine ⟨[(lab, _)], rfl, ?_⟩
      exact ⟨⟨k', fr', m, 0⟩, true, _, _, by unfold oneR; rw [if_neg (by omega), if_pos (by omega)], rfl, rfl⟩
    · -- c13.f
      refine w_skip (st_bn (st_tn (w_seq (w_emp 77 (slO_nil 3 1) ?_))))
      refine w_region (zd rfl (op_build tB48l rfl rfl) (wl_op0 [4] rfl rfl rfl (op_store rfl rfl tZ48l (by rfl) (by rfl) (by exact Nat.le_of_ble_eq_true rfl)) ?_))
      rintro _ _ ⟨rfl, rfl⟩
      refine za rfl (wl_nil (st_tn (w_ret (st_ret (vs := [_, _]) [77] Try.results70 ⟨⟨_, rfl, Ent.mono (Ent.lab (l := 4) rfl (says_cel 0)) (fun _ h => run_load_agg tA48l h (Nat.le_of_ble_eq_true rfl))⟩, ⟨rfl, trivial⟩⟩ rfl ?_))))
      refine ⟨[(lab, _)], rfl, ?_⟩
      exact ⟨zeroR 0, false, none, 0, by unfold oneR; rw [if_neg (by omega), if_neg (by omega)], rfl, rfl⟩
end Go.Proofs.Ytbgddblfalahfaa
namespace Go.Proofs.Ytbgddblfalahfaa
open Go Go.SL Go.RowKit
set_option linter.unusedVariables false
set_option linter.unusedSimpArgs false
theorem tA48m : aggB Try.prog 48 7 = true := by kernel_rfl
theorem tB48m : placesB Try.prog 48 = some ([(0, 1), (1, 1), (2, 1), (3, 2), (5, 1), (6, 1)], [Value.string .empty, Value.string .empty, Value.int .i64 0, Value.int .i64 0, Value.int .i64 0, Value.int .i64 0, Value.slice none 0 0]) := by kernel_rfl
theorem tF37_0m : fieldB Try.prog 37 0 0 = true := by kernel_rfl
theorem tF37_1m : fieldB Try.prog 37 1 1 = true := by kernel_rfl
theorem tF48_5m : fieldB Try.prog 48 5 6 = true := by kernel_rfl
theorem tL25_1m : zerosB Try.prog 25 3 1 1 = some [Value.int .i64 0] := by kernel_rfl
theorem tMixm : Try.prog.follows .mixedOrders = true := by kernel_rfl
theorem tN37m : (Try.prog.info? 37).bind (·.zero) = some (Value.agg #[Value.int .i64 0, Value.int .i64 0]) := by kernel_rfl
theorem tN48m : (Try.prog.info? 48).bind (·.zero) = some (Value.agg #[Value.string .empty, Value.string .empty, Value.int .i64 0, Value.int .i64 0, Value.int .i64 0, Value.int .i64 0, Value.slice none 0 0]) := by kernel_rfl
theorem tO25m : oneB Try.prog 25 = true := by kernel_rfl
theorem tO3m : oneB Try.prog 3 = true := by kernel_rfl
theorem tP25m : appB Try.prog 25 3 1 8 = true := by kernel_rfl
theorem tZ25m : (Try.prog.info? 25).map (·.size) = some 1 := by kernel_rfl
theorem tZ37m : (Try.prog.info? 37).map (·.size) = some 2 := by kernel_rfl
theorem tZ48m : (Try.prog.info? 48).map (·.size) = some 7 := by kernel_rfl
theorem find_at {α : Type} {l : List α} {p : α → Bool} {i : Nat} {x : α} (hx : l[i]? = some x) (hp : p x = true) (hn : ∀ q ∈ l.take i, p q = false) : l.find? p = some x := by
  have h1 : l = l.take i ++ x :: l.drop (i + 1) := by
    obtain ⟨h1, h2⟩ := List.getElem?_eq_some_iff.1 hx
    conv => lhs; rw [← List.take_append_drop i l]
    rw [List.drop_eq_getElem_cons h1, h2]
  rw [h1, List.find?_append, List.find?_eq_none.2 (fun q hq => by rw [hn q hq]; simp), List.find?_cons, hp]; rfl
def slots (lo hi : Int) : List Int := (List.range (hi - lo).toNat).map fun (i : Nat) => lo + (i : Int)
theorem slots_get {lo hi s : Int} (h0 : lo ≤ s) (h1 : s < hi) : (slots lo hi)[(s - lo).toNat]? = some s := by
  unfold slots
  rw [List.getElem?_map, List.getElem?_range (by omega)]
  simp; omega
theorem slots_len {lo hi : Int} : (slots lo hi).length = (hi - lo).toNat := by unfold slots; simp
theorem mem_slots {lo hi s : Int} : s ∈ slots lo hi ↔ lo ≤ s ∧ s < hi := by
  unfold slots
  rw [List.mem_map]
  constructor
  · rintro ⟨i, hi, rfl⟩; rw [List.mem_range] at hi; omega
  · intro h; exact ⟨(s - lo).toNat, by rw [List.mem_range]; omega, by omega⟩
theorem slots_snoc {lo hi s : Int} (h0 : lo ≤ s) (h1 : s < hi) : (slots lo hi).take (s + 1 - lo).toNat = (slots lo hi).take (s - lo).toNat ++ [s] := by
  rw [show (s + 1 - lo).toNat = (s - lo).toNat + 1 by omega]; exact take_snoc (slots_get h0 h1)
def bothR (k : SK) (lo hi : Int) (val : Int → Int × Int) : R :=
  if hi - lo > 1024 then zeroR 6 else match (slots lo hi).find? (fun s => decide ((val s).2 ≠ 0)) with
  | some s => zeroR (val s).2
  | none => ⟨k, lo, (slots lo hi).map (fun s => (val s).1), 0⟩
set_option maxHeartbeats 2000000 in
set_option maxRecDepth 100000 in
theorem both_any {σ : World} {F : List Res} {a b : Option Addr} {c d : Nat} {l m : List Int} {gf : Nat} {gn : Func} {fs cs : List Value} (lab : Nat) (k : SK) (fr : Int) (k' : SK) (fr' : Int) (val : Int → Int × Int) (h : Sl σ F encZ 1 (.slice a l.length c) l) (g : Sl σ F encZ 1 (.slice b m.length d) m) (hl : l.length ≤ 1048576) (hm : m.length ≤ 1048576) (hf : -1099511627776 ≤ fr ∧ fr ≤ 1099511627776) (hf' : -1099511627776 ≤ fr' ∧ fr' ≤ 1099511627776)
    (hg : Try.prog.funcs[gf]? = some gn) (hgb : gn.body.isSome = true) (hgn : (gn.name == "runtime.NumGoroutine") = false) (hp : ∀ (X : List Res) (s : Int), min fr fr' ≤ s → s < max (fr + l.length) (fr' + m.length) → FnT Try.prog σ (X ++ F) gf (fs ++ [.int .i64 s] ++ cs) [] (fun u ρ => u = .tuple #[.int .i64 (val s).1, .int .i64 (val s).2] ∧ ρ = [])) :
    FnT Try.prog σ F 71 [sr k fr (.slice a l.length c), sr k' fr' (.slice b m.length d), .func (.func gf) fs.toArray cs.toArray] [] (SerV (bothR k (min fr fr') (max (fr + l.length) (fr' + m.length)) val) lab) := by
  refine fn_of 61 Try.func71 rfl Try.ntmps71 rfl ?_
  have hle := h.i64
  have gle := g.i64
  refine w_seq (w_region (wl_op [] rfl rfl rfl rfl (op_box (T := 48) (l := 3) rfl) ?_))
  rintro _ _ ⟨b3, rfl, rfl⟩
  refine wl_op [] rfl rfl rfl rfl (op_box (T := 48) (l := 4) rfl) ?_
  rintro _ _ ⟨b4, rfl, rfl⟩
  refine wl_op [] rfl rfl rfl rfl (op_alloc (l := 6) tN48m) ?_
  rintro _ _ ⟨b6, rfl, rfl⟩
  refine za rfl (wl_nil (st_tn (w_seq ?_)))
  refine w_drawW (fun β => [⟨16, [], [], [], noW (_), false, [], []⟩, ⟨17, [0], [], [], noW (_), false, [], []⟩, ⟨18, [], [], [], noW (_), false, [], []⟩, ⟨19, [2], [], [], noW (_), false, [], []⟩, ⟨8, [], [], [], fun w => DetW _ _, false, [], []⟩, ⟨9, [], [], [], fun w => DetW _ _, false, [], []⟩]) [] [3, 4] [⟨16, [], [], false, [], []⟩, ⟨17, [0], [], false, [], []⟩, ⟨18, [], [], false, [], []⟩, ⟨19, [2], [], false, [], []⟩, ⟨8, [], [], false, [], []⟩, ⟨9, [], [], false, [], []⟩] [[], [], [], [], [], []] [[], [], [], [], [], []] tMixm (fun _ => by rfl) (fun _ => by rfl) (by kernel_rfl) (by kernel_rfl) (by rfl) (by rfl)
      (fun β => ⟨.p rfl (by intro X; exact op_loadA rfl tA48m (Ent.lab (l := 3) rfl (says_cel 0)) (Nat.le_of_ble_eq_true rfl)),
      ⟨.p rfl (by intro X; rintro _ _ ⟨rfl, rfl⟩; exact op_fn Try.func45 rfl rfl rfl (slots_any _ _ (Sl.app (Sl.app h X) _) (by omega) (by omega))),
      ⟨.p rfl (by intro X; exact op_loadA rfl tA48m (Ent.lab (l := 4) rfl (says_cel 0)) (Nat.le_of_ble_eq_true rfl)),
      ⟨.p rfl (by intro X; rintro _ _ ⟨rfl, rfl⟩; exact op_fn Try.func45 rfl rfl rfl (slots_any _ _ (Sl.app (Sl.app g X) _) (by omega) (by omega))),
      ⟨.px rfl (by intro X; refine OpT.mono (op_alloc (l := 8) tN37m) ?_; rintro _ _ ⟨b8, rfl, rfl⟩; obtain ⟨w, rfl⟩ : ∃ w : Wt, w.b = b8 := ⟨{ b := b8 }, rfl⟩; exact ⟨w, rfl, rfl⟩),
      ⟨.px rfl (by intro X; refine OpT.mono (op_alloc (l := 9) tN37m) ?_; rintro _ _ ⟨b9, rfl, rfl⟩; obtain ⟨w, rfl⟩ : ∃ w : Wt, w.b = b9 := ⟨{ b := b9 }, rfl⟩; exact ⟨w, rfl, rfl⟩),
      trivial⟩⟩⟩⟩⟩⟩)
      (fun β β' => ⟨fun _ => by rfl, ⟨fun _ => by rfl, ⟨fun _ => by rfl, ⟨fun _ => by rfl, ⟨fun _ => by rfl, ⟨fun _ => by rfl, trivial⟩⟩⟩⟩⟩⟩) ?_
  intro β
  rintro _ _ ⟨rfl, rfl⟩ _ _ ⟨rfl, rfl⟩ _ _ ⟨rfl, rfl⟩ _ _ ⟨rfl, rfl⟩ _ _ ⟨rfl, rfl⟩ _ _ ⟨rfl, rfl⟩
  generalize (β 4).b = b8
  generalize (β 5).b = b9
  refine wl_norm (e' := [(2, _), (3, _), (6, _), (8, _), (9, _), (17, _), (19, _)]) (.cons rfl (.cons rfl (.cons rfl (.cons rfl (.cons rfl (.cons rfl (.cons rfl (.nil _)))))))) (by dsimp only [cond_false, cond_true, List.nil_append, List.cons_append]) ?_
  refine wl_op0 [8] rfl rfl rfl (op_store rfl rfl tZ37m (by rfl) (by rfl) (by exact Nat.le_of_ble_eq_true rfl)) ?_
  rintro _ _ ⟨rfl, rfl⟩
  refine wl_op0 [9] rfl rfl rfl (op_store rfl rfl tZ37m (by rfl) (by rfl) (by exact Nat.le_of_ble_eq_true rfl)) ?_
  rintro _ _ ⟨rfl, rfl⟩
  refine wl_nil (st_tn (w_seq ?_))
  refine w_drawW (fun β => [⟨20, [], [], [], noW (_), false, [], []⟩, ⟨21, [0], [], [], noW (_), false, [], []⟩, ⟨22, [], [], [], noW (_), false, [], []⟩, ⟨23, [2], [], [], noW (_), false, [], []⟩, ⟨24, [1, 3], [], [], noW (_), false, [], []⟩, ⟨25, [], [], [], noW (_), false, [], []⟩, ⟨26, [5], [], [], noW (_), false, [], []⟩, ⟨27, [], [], [], noW (_), false, [], []⟩, ⟨28, [7], [], [], noW (_), false, [], []⟩, ⟨29, [6, 8], [], [], noW (_), false, [], []⟩, ⟨10, [4], [], [], noW (_), false, [], []⟩]) [] [8, 9] [⟨20, [], [], false, [], []⟩, ⟨21, [0], [], false, [], []⟩, ⟨22, [], [], false, [], []⟩, ⟨23, [2], [], false, [], []⟩, ⟨24, [1, 3], [], false, [], []⟩, ⟨25, [], [], false, [], []⟩, ⟨26, [5], [], false, [], []⟩, ⟨27, [], [], false, [], []⟩, ⟨28, [7], [], false, [], []⟩, ⟨29, [6, 8], [], false, [], []⟩, ⟨10, [4], [], false, [], []⟩] [[], [], [], [], [], [], [], [], [], [], []] [[], [], [], [], [], [], [], [], [], [], []] tMixm (fun _ => by rfl) (fun _ => by rfl) (by kernel_rfl) (by kernel_rfl) (by rfl) (by rfl)
      (fun β => ⟨.p rfl (by intro X; exact op_fieldAddr (off := 0) rfl tF37_0m),
      ⟨.p rfl (by intro X; rintro _ _ ⟨rfl, rfl⟩; exact op_load1 rfl tO3m (Ent.lab (l := 8) rfl (says_cel 0))),
      ⟨.p rfl (by intro X; exact op_fieldAddr (off := 0) rfl tF37_0m),
      ⟨.p rfl (by intro X; rintro _ _ ⟨rfl, rfl⟩; exact op_load1 rfl tO3m (Ent.lab (l := 9) rfl (says_cel 0))),
      ⟨.p rfl (by intro X; rintro _ _ ⟨rfl, rfl⟩ _ _ ⟨rfl, rfl⟩; exact op_min rfl rfl),
      ⟨.p rfl (by intro X; exact op_fieldAddr (off := 1) rfl tF37_1m),
      ⟨.p rfl (by intro X; rintro _ _ ⟨rfl, rfl⟩; exact op_load1 rfl tO3m (Ent.lab (l := 8) rfl (says_cel 1))),
      ⟨.p rfl (by intro X; exact op_fieldAddr (off := 1) rfl tF37_1m),
      ⟨.p rfl (by intro X; rintro _ _ ⟨rfl, rfl⟩; exact op_load1 rfl tO3m (Ent.lab (l := 9) rfl (says_cel 1))),
      ⟨.p rfl (by intro X; rintro _ _ ⟨rfl, rfl⟩ _ _ ⟨rfl, rfl⟩; exact op_max rfl rfl),
      ⟨.p rfl (by intro X; rintro _ _ ⟨rfl, rfl⟩; exact op_assign rfl),
      trivial⟩⟩⟩⟩⟩⟩⟩⟩⟩⟩⟩)
      (fun β β' => ⟨fun _ => by rfl, ⟨fun _ => by rfl, ⟨fun _ => by rfl, ⟨fun _ => by rfl, ⟨fun _ => by rfl, ⟨fun _ => by rfl, ⟨fun _ => by rfl, ⟨fun _ => by rfl, ⟨fun _ => by rfl, ⟨fun _ => by rfl, ⟨fun _ => by rfl, trivial⟩⟩⟩⟩⟩⟩⟩⟩⟩⟩⟩) ?_
  intro β
  rintro _ _ ⟨rfl, rfl⟩ _ _ ⟨rfl, rfl⟩ _ _ ⟨rfl, rfl⟩ _ _ ⟨rfl, rfl⟩ _ _ ⟨rfl, rfl⟩ _ _ ⟨rfl, rfl⟩ _ _ ⟨rfl, rfl⟩ _ _ ⟨rfl, rfl⟩ _ _ ⟨rfl, rfl⟩ _ _ ⟨rfl, rfl⟩ _ _ ⟨rfl, rfl⟩
  refine wl_norm (e' := [(2, _), (3, _), (6, _), (10, _), (29, _)]) (.cons rfl (.cons rfl (.cons rfl (.cons rfl (.cons rfl (.nil _)))))) (by dsimp only [cond_false, cond_true, List.nil_append, List.cons_append]) ?_
  refine za rfl (wl_nil (st_tn (w_seq ?_)))
  obtain ⟨lo, hlo⟩ : ∃ lo, lo = min fr fr' := ⟨_, rfl⟩
  obtain ⟨hi, hhi⟩ : ∃ hi, hi = max (fr + l.length) (fr' + m.length) := ⟨_, rfl⟩
  rw [← hlo, ← hhi]
  simp only [← hlo, ← hhi] at hp
  refine w_region (zd rfl (op_loadA rfl tA48m (Ent.lab (l := 3) rfl (says_cel 0)) (Nat.le_of_ble_eq_true rfl)) (zm rfl (zd rfl (op_fn Try.func55 rfl rfl rfl (like_any k fr lo a none l.length c 0 0)) (wl_op [] rfl rfl rfl rfl (op_alloc (l := 12) tN48m) ?_))))
  rintro _ _ ⟨b12, rfl, rfl⟩
  refine wl_op0 [12] rfl rfl rfl (op_store rfl rfl tZ48m (by rfl) (by rfl) (by exact Nat.le_of_ble_eq_true rfl)) ?_
  rintro _ _ ⟨rfl, rfl⟩
  refine wl_nil (st_tn (w_seq (w_seq (w_region (zm rfl (zm rfl (zd rfl (op_sub' rfl rfl (by omega)) ?_)))))))
  refine zd rfl (op_gtr rfl rfl) (wl_nil (st_tn (w_cond_d rfl (fun hc36 => ?_) (fun hc36 => ?_))))
  · -- c36.t
    refine w_seq (w_emp 77 (slO_nil 3 1) ?_)
    refine w_region (zd rfl (op_build tB48m rfl rfl) (wl_op0 [6] rfl rfl rfl (op_store rfl rfl tZ48m (by rfl) (by rfl) (by exact Nat.le_of_ble_eq_true rfl)) ?_))
    rintro _ _ ⟨rfl, rfl⟩
    refine za rfl (wl_nil (st_tn (w_ret (st_tr (st_ret (vs := [_, _]) [77] Try.results71 ⟨⟨_, rfl, Ent.mono (Ent.lab (l := 6) rfl (says_cel 0)) (fun _ h => run_load_agg tA48m h (Nat.le_of_ble_eq_true rfl))⟩, ⟨rfl, trivial⟩⟩ rfl ?_)))))
    refine ⟨[(lab, _)], rfl, ?_⟩
    unfold bothR; rw [if_pos hc36]; exact ⟨none, 0, rfl, rfl⟩
  · -- c36.f
    refine w_skip (st_tn (w_seq (w_seq (w_region (zm rfl (za rfl (wl_nil (st_tn (w_block (w_emp 912 (slO_nil 3 1) ?_))))))))))
    refine w_loopQ (X := Int × List Int × Option Addr × Nat) (fun z => (lo ≤ z.1 ∧ z.1 ≤ hi) ∧ z.2.1 = ((slots lo hi).take (z.1 - lo).toNat).map (fun q => (val q).1) ∧ ∀ q ∈ (slots lo hi).take (z.1 - lo).toNat, (val q).2 = 0) (fun z => [(13, .int .i64 (z.1))]) (fun z => [(912, slW 3 SL.encZ 1 (.slice (z.2.2.1) (z.2.1).length (z.2.2.2)) (z.2.1)), (12, cel b12 [.string k.svc, .string k.op, .int .i64 k.met, .int .i64 k.qn, .int .i64 k.qd, .int .i64 lo, .slice (z.2.2.1) (z.2.1).length (z.2.2.2)] 48)]) (fun z => (hi - z.1).toNat) ((_, [], none, 0)) [(2, _), (6, _), (11, _), (12, _)] [(3, _), (4, _), (6, _), (8, _), (9, _)] [912, 12, 3, 4, 6, 8, 9] rfl (rfl) (.cons rfl (.nil _)) (.cons rfl (.cons rfl (.cons rfl (.cons rfl (.nil _))))) (by
        try dsimp only
        exact ⟨by omega, by rw [Int.sub_self]; rfl, by rw [Int.sub_self]; simp⟩) ?_
    rintro ⟨s, out, a_out, c_out⟩ ⟨hs, ho, hn⟩
    refine w_norm2 (by dsimp only [List.cons_append, List.nil_append]) (by dsimp only [List.cons_append, List.nil_append]) ?_
    try dsimp only at hs ho hn ⊢
    refine w_seq (w_seq (w_region (zm rfl (zm rfl (zd rfl (op_lss rfl rfl) (wl_nil (st_tn (w_cond_d rfl (fun hc41 => ?_) (fun hc41 => ?_)))))))))
    · -- c41.t
      have hol : out.length ≤ 1024 := by rw [ho, List.length_map, List.length_take, slots_len]; omega
      refine w_skip (st_tn (w_seq (w_block (w_seq (w_region (zm rfl (zm rfl (zd rfl (op_fnv hg hgb hgn rfl rfl (hp _ s hs.1 (by omega))) ?_))))))))
      refine zm rfl (zd rfl (op_extract rfl rfl) (zd rfl (op_extract rfl rfl) (za rfl (za rfl (wl_nil (st_tn (w_seq (w_seq (w_region (zm rfl (zd rfl (op_neq rfl rfl) (wl_nil (st_tn ?_)))))))))))))
      refine w_cond_d rfl (fun hc51 => ?_) (fun hc51 => ?_)
      · -- c51.t
        refine w_seq (w_emp 77 (slO_nil 3 1) ?_)
        refine w_region (zd rfl (op_build tB48m rfl rfl) (zm rfl (wl_op0 [6] rfl rfl rfl (op_store rfl rfl tZ48m (by rfl) (by rfl) (by exact Nat.le_of_ble_eq_true rfl)) ?_)))
        rintro _ _ ⟨rfl, rfl⟩
        refine za rfl (wl_nil (st_tn (w_ret (st_tr (st_br (st_tr (st_tr (st_br (st_tr (st_ret (vs := [_, _]) [77] Try.results71 ⟨⟨_, rfl, Ent.mono (Ent.lab (l := 6) rfl (says_cel 0)) (fun _ h => run_load_agg tA48m h (Nat.le_of_ble_eq_true rfl))⟩, ⟨rfl, trivial⟩⟩ rfl ?_))))))))))
        refine ⟨[(lab, _)], rfl, ?_⟩
        have hb : bothR k lo hi val = zeroR (val s).2 := by
          unfold bothR; rw [if_neg hc36, find_at (slots_get hs.1 (by omega)) (decide_eq_true hc51) (fun q hq => by rw [hn q hq]; simp)]
        rw [hb]; exact ⟨none, 0, rfl, rfl⟩
      · -- c51.f
        refine w_skip (st_tn (w_region (zd rfl (op_fieldAddr (off := 6) rfl tF48_5m) (zd rfl (op_load1 rfl tO25m (Ent.lab (l := 12) rfl (says_cel 6))) (zm rfl (wl_op [] rfl rfl rfl rfl (op_buildSlice (enc := SL.encZ) (l := [_]) (lab := 57) tL25_1m rfl rfl (fun _ => rfl) rfl) ?_))))))
        rintro _ _ ⟨a57, c57, rfl, rfl⟩
        refine wl_op [912] rfl rfl rfl rfl (op_append (lab := 912) (lab' := 58) rfl rfl tP25m SL.enc1Z (Sl.lab 57 rfl (by simp [maxLen])) (by first | omega | (simp; done) | (simp; omega) | (simp [*]; omega)) (by first | omega | (simp; done) | (simp; omega) | (simp [*]; omega))) ?_
        rintro _ _ ⟨a58, c58, rfl, rfl⟩
        refine zd rfl (op_fieldAddr (off := 6) rfl tF48_5m) (wl_op0 [12] rfl rfl rfl (op_store rfl rfl tZ25m (by rfl) (by rfl) (by exact Nat.le_of_ble_eq_true rfl)) ?_)
        rintro _ _ ⟨rfl, rfl⟩
        refine wl_nil (st_bn (st_tn (w_region (zm rfl (zd rfl (op_add' rfl rfl (by omega)) ?_)))))
        refine za rfl (wl_nil ?_)
        refine st_roundQ (x := (s, out, a_out, c_out)) ((s + 1, _, _, _)) [58, 12, 3, 4, 6, 8, 9] rfl (rfl) (.cons rfl (.nil _)) (.cons rfl (.cons rfl (.cons rfl (.cons rfl (.nil _))))) (by
            try dsimp only
            refine ⟨by omega, ?_, ?_⟩
            · rw [slots_snoc hs.1 (by omega), List.map_append, ← ho]; rfl
            · rw [slots_snoc hs.1 (by omega)]; intro q hq; rcases List.mem_append.1 hq with hq | hq; (· exact hn q hq); (· simp only [List.mem_singleton] at hq; subst hq; exact Classical.byContradiction hc51)) (by
            try dsimp only
            omega)
    · -- c41.f
      refine w_exit (st_te ?_)
      refine st_te ?_
      refine st_be (st_tn (w_seq (w_region (zd rfl (op_loadA rfl tA48m (Ent.lab (l := 12) rfl (says_cel 0)) (Nat.le_of_ble_eq_true rfl)) (wl_op0 [6] rfl rfl rfl (op_store rfl rfl tZ48m (by rfl) (by rfl) (by exact Nat.le_of_ble_eq_true rfl)) ?_)))))
      rintro _ _ ⟨rfl, rfl⟩
      refine za rfl (wl_nil (st_tn (w_ret (st_ret (vs := [_, _]) [912] Try.results71 ⟨⟨_, rfl, Ent.mono (Ent.lab (l := 6) rfl (says_cel 0)) (fun _ h => run_load_agg tA48m h (Nat.le_of_ble_eq_true rfl))⟩, ⟨rfl, trivial⟩⟩ rfl ?_))))
      refine ⟨[(lab, _)], rfl, ?_⟩
      have hol : (slots lo hi).take (s - lo).toNat = slots lo hi := List.take_of_length_le (by rw [slots_len]; omega)
      rw [hol] at ho hn
      have hb : bothR k lo hi val = ⟨k, lo, out, 0⟩ := by
        unfold bothR; rw [if_neg hc36, List.find?_eq_none.2 (fun q hq => by rw [hn q hq]; simp), ← ho]
      rw [hb]; exact ⟨_, _, rfl, rfl⟩
end Go.Proofs.Ytbgddblfalahfaa
namespace Go.Proofs.Ytbgddblfalahfaa
open Go Go.SL Go.RowKit
set_option linter.unusedVariables false
set_option linter.unusedSimpArgs false
theorem nilZ {σ : World} {F : List Res} {a : Option Addr} {c : Nat} : Sl σ F encZ 1 (.slice a ([] : List Int).length c) [] := ⟨fun w _ => ⟨by simp, by simp, .inl ⟨a, c, rfl, rfl⟩⟩, by simp [maxLen]⟩
theorem sameK_refl (k : SK) : sameK k k := sameK_eq.2 rfl
theorem oneR_both {k : SK} {fr : Int} {l : List Int} {k' : SK} {fr' : Int} {m : List Int} (h1 : l.length ≠ 0) (h2 : m.length ≠ 0) : ¬ (oneR k fr l k' fr' m).2 = true := by
  unfold oneR; rw [if_neg h2, if_neg h1]; simp
end Go.Proofs.Ytbgddblfalahfaa
namespace Go.Proofs.Ytbgddblfalahfaa
open Go Go.SL Go.RowKit
set_option linter.unusedVariables false
set_option linter.unusedSimpArgs false
theorem tA48o : aggB Try.prog 48 7 = true := by kernel_rfl
theorem tB48o : placesB Try.prog 48 = some ([(0, 1), (1, 1), (2, 1), (3, 2), (5, 1), (6, 1)], [Value.string .empty, Value.string .empty, Value.int .i64 0, Value.int .i64 0, Value.int .i64 0, Value.int .i64 0, Value.slice none 0 0]) := by kernel_rfl
theorem tF48_2o : fieldB Try.prog 48 2 2 = true := by kernel_rfl
theorem tN48o : (Try.prog.info? 48).bind (·.zero) = some (Value.agg #[Value.string .empty, Value.string .empty, Value.int .i64 0, Value.int .i64 0, Value.int .i64 0, Value.int .i64 0, Value.slice none 0 0]) := by kernel_rfl
theorem tO3o : oneB Try.prog 3 = true := by kernel_rfl
theorem tZ48o : (Try.prog.info? 48).map (·.size) = some 7 := by kernel_rfl
def sumV (l : List Int) (fr : Int) (m : List Int) (fr' : Int) (x : Int) : Int × Int := if atV l fr x + atV m fr' x > 1099511627776 then (0, 20) else (atV l fr x + atV m fr' x, 0)
theorem atV_bd {l : List Int} {fr x : Int} (hv : ∀ x ∈ l, 0 ≤ x ∧ x ≤ 1099511627776) : 0 ≤ atV l fr x ∧ atV l fr x ≤ 1099511627776 := by
  unfold atV
  split
  · rw [List.getD_eq_getElem?_getD]
    cases h : l[(x - fr).toNat]? with
    | none => simp
    | some y => exact hv y (List.mem_of_getElem? h)
  · omega
set_option maxHeartbeats 1000000 in
set_option maxRecDepth 100000 in
theorem sum1_any {σ : World} {F : List Res} {p q : Addr} {a b : Option Addr} {c d : Nat} {l m : List Int} {k : SK} {fr : Int} {k' : SK} {fr' : Int} (x : Int) (hp : Ent σ F (At p (sr k fr (.slice a l.length c)).cells.toList)) (hq : Ent σ F (At q (sr k' fr' (.slice b m.length d)).cells.toList)) (h : Sl σ F encZ 1 (.slice a l.length c) l) (g : Sl σ F encZ 1 (.slice b m.length d) m) (hl : l.length ≤ 1048576) (hm : m.length ≤ 1048576) (hf : -1099511627776 ≤ fr ∧ fr ≤ 1099511627776) (hf' : -1099511627776 ≤ fr' ∧ fr' ≤ 1099511627776) (hx : -9223372036854775808 ≤ x ∧ x ≤ 9223372036854775807) (hv : ∀ x ∈ l, 0 ≤ x ∧ x ≤ 1099511627776) (hw : ∀ x ∈ m, 0 ≤ x ∧ x ≤ 1099511627776) :
    FnT Try.prog σ F 73 [.int .i64 x, .pointer (some p), .pointer (some q)] [] (fun u ρ => u = .tuple #[.int .i64 (sumV l fr m fr' x).1, .int .i64 (sumV l fr m fr' x).2] ∧ ρ = []) := by
  refine fn_of 29 Try.func73 rfl Try.ntmps73 rfl ?_
  have h1 := atV_bd (fr := fr) (x := x) hv
  have h2 := atV_bd (fr := fr') (x := x) hw
  refine w_seq (w_region (za rfl (za rfl (wl_nil (st_tn (w_seq (w_region (zd rfl (op_loadA rfl tA48o (Ent.app hp _) (Nat.le_of_ble_eq_true rfl)) (zm rfl (zd rfl (op_fn Try.func43 rfl rfl rfl (at_any _ _ _ (Sl.app h _) (by omega) (by omega) (by omega))) ?_))))))))))
  refine zm rfl (zd rfl (op_extract rfl rfl) (zd rfl (op_extract rfl rfl) (za rfl (za rfl (wl_nil (st_tn (w_seq (w_region (zd rfl (op_loadA rfl tA48o (Ent.app hq _) (Nat.le_of_ble_eq_true rfl)) (zm rfl (zd rfl (op_fn Try.func43 rfl rfl rfl (at_any _ _ _ (Sl.app g _) (by omega) (by omega) (by omega))) ?_)))))))))))
  refine zm rfl (zd rfl (op_extract rfl rfl) (zd rfl (op_extract rfl rfl) (za rfl (za rfl (wl_nil (st_tn (w_seq (w_seq (w_region (zm rfl (zm rfl (zd rfl (op_add' rfl rfl (by omega)) ?_))))))))))))
  refine zd rfl (op_gtr rfl rfl) (wl_nil (st_tn (w_cond_d rfl (fun hc25 => ?_) (fun hc25 => ?_))))
  · -- c25.t
    refine w_seq (w_region (za rfl (za rfl (wl_nil (st_tn (w_ret (st_tr (st_ret (vs := [_, _]) [] Try.results73 ⟨rfl, ⟨rfl, trivial⟩⟩ rfl ?_))))))))
    refine ⟨_, rfl, ?_⟩
    unfold sumV; rw [if_pos hc25]; exact ⟨rfl, rfl⟩
  · -- c25.f
    refine w_skip (st_tn (w_seq (w_region (zm rfl (zm rfl (zd rfl (op_add' rfl rfl (by omega)) ?_))))))
    refine za rfl (za rfl (wl_nil (st_tn (w_ret (st_ret (vs := [_, _]) [] Try.results73 ⟨rfl, ⟨rfl, trivial⟩⟩ rfl ?_)))))
    refine ⟨_, rfl, ?_⟩
    unfold sumV; rw [if_neg hc25]; exact ⟨rfl, rfl⟩
def sumR (k : SK) (fr : Int) (l : List Int) (k' : SK) (fr' : Int) (m : List Int) : R :=
  if ¬ sameK k k' then zeroR 17 else if k.met = 3 then zeroR 12 else if (oneR k fr l k' fr' m).2 = true then ⟨(oneR k fr l k' fr' m).1.k, (oneR k fr l k' fr' m).1.fr, (oneR k fr l k' fr' m).1.vals, 0⟩
  else bothR k (min fr fr') (max (fr + l.length) (fr' + m.length)) (sumV l fr m fr')
set_option maxHeartbeats 2000000 in
set_option maxRecDepth 100000 in
theorem sum_any {σ : World} {F : List Res} {a b : Option Addr} {c d : Nat} {l m : List Int} (lab : Nat) (k : SK) (fr : Int) (k' : SK) (fr' : Int) (h : Sl σ F encZ 1 (.slice a l.length c) l) (g : Sl σ F encZ 1 (.slice b m.length d) m) (hl : l.length ≤ 1048576) (hm : m.length ≤ 1048576) (hf : -1099511627776 ≤ fr ∧ fr ≤ 1099511627776) (hf' : -1099511627776 ≤ fr' ∧ fr' ≤ 1099511627776) (hv : ∀ x ∈ l, 0 ≤ x ∧ x ≤ 1099511627776) (hw : ∀ x ∈ m, 0 ≤ x ∧ x ≤ 1099511627776) :
    FnT Try.prog σ F 40 [sr k fr (.slice a l.length c), sr k' fr' (.slice b m.length d)] [] (SerV (sumR k fr l k' fr' m) lab) := by
  refine fn_of 33 Try.func40 rfl Try.ntmps40 rfl ?_
  have hle := h.i64
  have gle := g.i64
  refine w_seq (w_region (wl_op [] rfl rfl rfl rfl (op_box (T := 48) (l := 2) rfl) ?_))
  rintro _ _ ⟨b2, rfl, rfl⟩
  refine wl_op [] rfl rfl rfl rfl (op_box (T := 48) (l := 3) rfl) ?_
  rintro _ _ ⟨b3, rfl, rfl⟩
  refine wl_op [] rfl rfl rfl rfl (op_alloc (l := 4) tN48o) ?_
  rintro _ _ ⟨b4, rfl, rfl⟩
  refine za rfl (wl_nil (st_tn (w_seq (w_block (w_seq (w_region (zd rfl (op_loadA rfl tA48o (Ent.lab (l := 2) rfl (says_cel 0)) (Nat.le_of_ble_eq_true rfl)) (zd rfl (op_loadA rfl tA48o (Ent.lab (l := 3) rfl (says_cel 0)) (Nat.le_of_ble_eq_true rfl)) (zd rfl (op_fn Try.func31 rfl rfl rfl (same_any k k' fr fr')) (zd rfl (op_not_d rfl) (za rfl (wl_nil (st_tn ?_)))))))))))))
  refine w_cond_d rfl (fun hc8 => ?_) (fun hc8 => ?_)
  · -- c8.t
    refine w_seq (w_emp 77 (slO_nil 3 1) ?_)
    refine w_region (zd rfl (op_build tB48o rfl rfl) (wl_op0 [4] rfl rfl rfl (op_store rfl rfl tZ48o (by rfl) (by rfl) (by exact Nat.le_of_ble_eq_true rfl)) ?_))
    rintro _ _ ⟨rfl, rfl⟩
    refine za rfl (wl_nil (st_tn (w_ret (st_br (st_tr (st_ret (vs := [_, _]) [77] Try.results40 ⟨⟨_, rfl, Ent.mono (Ent.lab (l := 4) rfl (says_cel 0)) (fun _ h => run_load_agg tA48o h (Nat.le_of_ble_eq_true rfl))⟩, ⟨rfl, trivial⟩⟩ rfl ?_))))))
    refine ⟨[(lab, _)], rfl, ?_⟩
    unfold sumR; rw [if_pos hc8]; exact ⟨none, 0, rfl, rfl⟩
  · -- c8.f
    refine w_seq (w_region (zd rfl (op_fieldAddr (off := 2) rfl tF48_2o) (zd rfl (op_load1 rfl tO3o (Ent.lab (l := 2) rfl (says_cel 2))) (zd rfl (op_eql rfl rfl) (za rfl (wl_nil (st_tn (w_cond_d rfl (fun hc14 => ?_) (fun hc14 => ?_)))))))))
    · -- c14.t
      refine w_seq (w_emp 77 (slO_nil 3 1) ?_)
      refine w_region (zd rfl (op_build tB48o rfl rfl) (wl_op0 [4] rfl rfl rfl (op_store rfl rfl tZ48o (by rfl) (by rfl) (by exact Nat.le_of_ble_eq_true rfl)) ?_))
      rintro _ _ ⟨rfl, rfl⟩
      refine za rfl (wl_nil (st_tn (w_ret (st_br (st_tr (st_ret (vs := [_, _]) [77] Try.results40 ⟨⟨_, rfl, Ent.mono (Ent.lab (l := 4) rfl (says_cel 0)) (fun _ h => run_load_agg tA48o h (Nat.le_of_ble_eq_true rfl))⟩, ⟨rfl, trivial⟩⟩ rfl ?_))))))
      refine ⟨[(lab, _)], rfl, ?_⟩
      unfold sumR; rw [if_neg hc8, if_pos hc14]; exact ⟨none, 0, rfl, rfl⟩
    · -- c14.f
      refine w_skip (st_bn (st_tn (w_seq (w_seq (w_region (zd rfl (op_loadA rfl tA48o (Ent.lab (l := 2) rfl (says_cel 0)) (Nat.le_of_ble_eq_true rfl)) (zd rfl (op_loadA rfl tA48o (Ent.lab (l := 3) rfl (says_cel 0)) (Nat.le_of_ble_eq_true rfl)) (wl_op [] rfl rfl rfl rfl (op_fn Try.func70 rfl rfl rfl (one_any 22 _ _ _ _ (Sl.app h _) (Sl.app g _) (by omega) (by omega))) ?_))))))))
      rintro _ _ ⟨r22, o22, a22, c22, hro22, rfl, rfl⟩
      refine zm rfl (zd rfl (op_extract rfl rfl) (zd rfl (op_extract rfl rfl) (wl_op [] rfl rfl rfl rfl (op_alloc (l := 6) tN48o) ?_)))
      rintro _ _ ⟨b6, rfl, rfl⟩
      refine wl_op0 [6] rfl rfl rfl (op_store rfl rfl tZ48o (by rfl) (by rfl) (by exact Nat.le_of_ble_eq_true rfl)) ?_
      rintro _ _ ⟨rfl, rfl⟩
      refine za rfl (wl_nil (st_tn (w_seq (w_region (zm rfl (wl_nil (st_tn (w_cond rfl (fun hc25 => ?_) (fun hc25 => ?_)))))))))
      · -- c25.t
        refine w_seq (w_region (zd rfl (op_loadA rfl tA48o (Ent.lab (l := 6) rfl (says_cel 0)) (Nat.le_of_ble_eq_true rfl)) (wl_op0 [4] rfl rfl rfl (op_store rfl rfl tZ48o (by rfl) (by rfl) (by exact Nat.le_of_ble_eq_true rfl)) ?_)))
        rintro _ _ ⟨rfl, rfl⟩
        refine za rfl (wl_nil (st_tn (w_ret (st_tr (st_ret (vs := [_, _]) [22] Try.results40 ⟨⟨_, rfl, Ent.mono (Ent.lab (l := 4) rfl (says_cel 0)) (fun _ h => run_load_agg tA48o h (Nat.le_of_ble_eq_true rfl))⟩, ⟨rfl, trivial⟩⟩ rfl ?_)))))
        refine ⟨[(lab, _)], rfl, ?_⟩
        subst hc25; have hj : sumR k fr l k' fr' m = ⟨r22.k, r22.fr, r22.vals, 0⟩ := by unfold sumR; rw [if_neg hc8, if_neg hc14, ← hro22]; rfl
        rw [hj]; exact ⟨_, _, rfl, rfl⟩
      · -- c25.f
        subst hc25
        have ho2 : ¬ (oneR k fr l k' fr' m).2 = true := by rw [← hro22]; simp
        refine w_skip (st_tn (w_seq (w_region (zd rfl (op_loadA rfl tA48o (Ent.lab (l := 2) rfl (says_cel 0)) (Nat.le_of_ble_eq_true rfl)) (zd rfl (op_loadA rfl tA48o (Ent.lab (l := 3) rfl (says_cel 0)) (Nat.le_of_ble_eq_true rfl)) (zd rfl (op_makeFunc rfl rfl) (wl_op [] rfl rfl rfl rfl (op_fn Try.func71 rfl rfl rfl (both_any (fs := []) (cs := [.pointer (some ⟨b2, 0, none⟩), .pointer (some ⟨b3, 0, none⟩)]) 30 k fr k' fr' (sumV l fr m fr') (Sl.app h _) (Sl.app g _) hl hm hf hf' Try.func73 rfl rfl (fun X s h1 h2 => sum1_any (k := k) (fr := fr) (k' := k') (fr' := fr') s (Ent.app (Ent.lab (l := 2) rfl (says_cel 0)) X) (Ent.app (Ent.lab (l := 3) rfl (says_cel 0)) X) (Sl.app (Sl.app h _) X) (Sl.app (Sl.app g _) X) hl hm hf hf' (by omega) hv hw))) ?_)))))))
        rintro _ _ ⟨a30, c30, rfl, rfl⟩
        refine zd rfl (op_extract rfl rfl) (zd rfl (op_extract rfl rfl) (wl_op0 [4] rfl rfl rfl (op_store rfl rfl tZ48o (by rfl) (by rfl) (by exact Nat.le_of_ble_eq_true rfl)) ?_))
        rintro _ _ ⟨rfl, rfl⟩
        refine za rfl (wl_nil (st_tn (w_ret (st_ret (vs := [_, _]) [30] Try.results40 ⟨⟨_, rfl, Ent.mono (Ent.lab (l := 4) rfl (says_cel 0)) (fun _ h => run_load_agg tA48o h (Nat.le_of_ble_eq_true rfl))⟩, ⟨rfl, trivial⟩⟩ rfl ?_))))
        refine ⟨[(lab, _)], rfl, ?_⟩
        have hj : sumR k fr l k' fr' m = bothR k (min fr fr') (max (fr + l.length) (fr' + m.length)) (sumV l fr m fr') := by
          unfold sumR; rw [if_neg hc8, if_neg hc14, if_neg ho2]
        rw [hj]; exact ⟨_, _, rfl, rfl⟩
end Go.Proofs.Ytbgddblfalahfaa
namespace Go.Proofs.Ytbgddblfalahfaa
open Go Go.SL Go.RowKit
set_option linter.unusedVariables false
set_option linter.unusedSimpArgs false
end Go.Proofs.Ytbgddblfalahfaa
namespace Go.Proofs.Ytbgddblfalahfaa
open Go Go.SL Go.RowKit
set_option linter.unusedVariables false
set_option linter.unusedSimpArgs false
end Go.Proofs.Ytbgddblfalahfaa
namespace Go.Proofs.Ytbgddblfalahfaa
open Go Go.SL Go.RowKit
set_option linter.unusedVariables false
set_option linter.unusedSimpArgs false
theorem tF102_0sa : fieldB Try.prog 102 0 0 = true := by kernel_rfl
theorem tF102_2sa : fieldB Try.prog 102 2 2 = true := by kernel_rfl
theorem tF135_2sa : fieldB Try.prog 135 2 2 = true := by kernel_rfl
theorem tF68_0sa : fieldB Try.prog 68 0 0 = true := by kernel_rfl
theorem tF68_1sa : fieldB Try.prog 68 1 1 = true := by kernel_rfl
theorem tF68_2sa : fieldB Try.prog 68 2 5 = true := by kernel_rfl
theorem tO100sa : oneB Try.prog 100 = true := by kernel_rfl
theorem tO5sa : oneB Try.prog 5 = true := by kernel_rfl
theorem tO63sa : oneB Try.prog 63 = true := by kernel_rfl
theorem tO66sa : oneB Try.prog 66 = true := by kernel_rfl
theorem tS100sa : sliceB Try.prog 100 135 11 = true := by kernel_rfl
theorem tS63sa : sliceB Try.prog 63 102 3 = true := by kernel_rfl
theorem tS66sa : sliceB Try.prog 66 183 5 = true := by kernel_rfl
structure CallV where
  par : Int
  clk : Int
  knd : Int
  svc : Int
  ver : Int
  opn : Int
  wait : Int
  long : Int
  link : Int
  tag : Int
  fail : Bool
def encCall (c : CallV) : List Value := [.int .u8 c.par, .int .u8 c.clk, .int .u8 c.knd, .int .u8 c.svc, .int .u8 c.ver, .int .u8 c.opn, .int .u8 c.wait, .int .u8 c.long, .int .u8 c.link, .int .u8 c.tag, .bool c.fail]
structure TreeV where
  slot : Int
  start : Int
  a : Option Addr
  c : Nat
  calls : List CallV
def encTree (t : TreeV) : List Value := [.int .u8 t.slot, .int .u8 t.start, .slice t.a t.calls.length t.c]
abbrev SyncV := Int × Int × Int × Int × Int
def encSync (y : SyncV) : List Value := [.int .u8 y.1, .int .u8 y.2.1, .int .u8 y.2.2.1, .int .u8 y.2.2.2.1, .int .u8 y.2.2.2.2]
structure StoryV where
  ta : Option Addr
  tc : Nat
  trees : List TreeV
  o0 : Int
  o1 : Int
  o2 : Int
  o3 : Int
  sa : Option Addr
  sc : Nat
  syncs : List SyncV
  wr : Int
abbrev stV (S : StoryV) : Value := .agg #[.slice S.ta S.trees.length S.tc, .int .i8 S.o0, .int .i8 S.o1, .int .i8 S.o2, .int .i8 S.o3, .slice S.sa S.syncs.length S.sc, .int .u8 S.wr]
abbrev B8 (x : Int) : Prop := 0 ≤ x ∧ x ≤ 255
structure CallOk (c : CallV) : Prop where
  par : B8 c.par
  clk : B8 c.clk
  knd : B8 c.knd
  svc : B8 c.svc
  ver : B8 c.ver
  opn : B8 c.opn
  wait : B8 c.wait
  long : B8 c.long
  link : B8 c.link
  tag : B8 c.tag
structure StB (S : StoryV) : Prop where
  slot : ∀ t ∈ S.trees, B8 t.slot
  start : ∀ t ∈ S.trees, B8 t.start
  call : ∀ t ∈ S.trees, ∀ c ∈ t.calls, CallOk c
  o0 : -128 ≤ S.o0 ∧ S.o0 ≤ 127
  o1 : -128 ≤ S.o1 ∧ S.o1 ≤ 127
  o2 : -128 ≤ S.o2 ∧ S.o2 ≤ 127
  o3 : -128 ≤ S.o3 ∧ S.o3 ≤ 127
  wr : B8 S.wr
structure StOk (σ : World) (F : List Res) (S : StoryV) : Prop where
  b : StB S
  tr : Sl σ F encTree 3 (.slice S.ta S.trees.length S.tc) S.trees
  ca : ∀ t ∈ S.trees, Sl σ F encCall 11 (.slice t.a t.calls.length t.c) t.calls
  sy : Sl σ F encSync 5 (.slice S.sa S.syncs.length S.sc) S.syncs
theorem StOk.app {σ : World} {F : List Res} {S : StoryV} (h : StOk σ F S) (X : List Res) : StOk σ (X ++ F) S := ⟨h.b, h.tr.app X, fun t ht => (h.ca t ht).app X, h.sy.app X⟩
def shortP (S : StoryV) : Prop := (∀ t ∈ S.trees, t.calls.length ≤ 8) ∧ S.trees.length ≤ 3 ∧ S.syncs.length ≤ 6
instance (S : StoryV) : Decidable (shortP S) := by unfold shortP; infer_instance
set_option maxHeartbeats 400000 in
set_option maxRecDepth 100000 in
theorem short_any {σ : World} {F : List Res} {S : StoryV} (hS : StOk σ F S) : FnT Try.prog σ F 34 [stV S] [] (fun u ρ => u = .bool (decide (shortP S)) ∧ ρ = []) := by
  refine fn_of 29 Try.func34 rfl Try.ntmps34 rfl ?_
  have hle := hS.tr.i64
  have hle2 := hS.sy.i64
  refine w_seq (w_region (wl_op [] rfl rfl rfl rfl (op_box (T := 68) (l := 1) rfl) ?_))
  rintro _ _ ⟨b1, rfl, rfl⟩
  refine za rfl (wl_nil (st_tn (w_seq (w_seq (w_region (za rfl (wl_nil (st_tn (w_block ?_)))))))))
  refine w_loopQ (X := Nat) (fun z => z ≤ S.trees.length ∧ ∀ t ∈ S.trees.take z, t.calls.length ≤ 8) (fun z => [(3, .int .i64 (z))]) (fun _ => []) (fun z => S.trees.length - z) (0) [(1, _)] [(1, _)] [1] rfl (rfl) (.cons rfl (.nil _)) (.cons rfl (.nil _)) (by
      try dsimp only
      exact ⟨Nat.zero_le _, by simp⟩) ?_
  rintro i ⟨hi, hn⟩
  refine w_norm2 (by dsimp only [List.cons_append, List.nil_append]) (by dsimp only [List.cons_append, List.nil_append]) ?_
  try dsimp only at hi hn ⊢
  refine w_seq (w_seq (w_region (zm rfl (zd rfl (op_fieldAddr (off := 0) rfl tF68_0sa) (zd rfl (op_load1 rfl tO63sa (Ent.lab (l := 1) rfl (says_cel 0))) (zd rfl (op_lenT rfl tS63sa (Sl.ent (hS.tr.app _))) (zd rfl (op_lss rfl rfl) (wl_nil (st_tn (w_cond_d rfl (fun hc8 => ?_) (fun hc8 => ?_)))))))))))
  · -- c8.t
    obtain ⟨x, hz⟩ := getE (l := S.trees) (i := i) (by omega)
    have hxm := List.mem_of_getElem? hz
    have hcl := (hS.ca x hxm).i64
    refine w_skip (st_tn (w_seq (w_block (w_seq (w_region (zd rfl (op_fieldAddr (off := 0) rfl tF68_0sa) (zd rfl (op_load1 rfl tO63sa (Ent.lab (l := 1) rfl (says_cel 0))) (zm rfl (zd rfl (op_idx rfl rfl tS63sa (Sl.ent (hS.tr.app _)) (by omega)) ?_)))))))))
    refine zd rfl (op_fieldAddr (off := 2) rfl tF102_2sa) (zd rfl (op_ldxf rfl tO100sa (hS.tr.app _) (by assumption) (by rfl)) ?_)
    refine zd rfl (op_lenT rfl tS100sa (Sl.ent ((hS.ca x hxm).app _))) (zd rfl (op_gtr rfl rfl) (wl_nil (st_tn (w_cond_d rfl (fun hc18 => ?_) (fun hc18 => ?_)))))
    · -- c18.t
      refine w_seq (w_region (za rfl (wl_nil (st_tn (w_ret (st_br (st_tr (st_tr (st_br (st_tr (st_ret (vs := [_]) [] Try.results34 ⟨rfl, trivial⟩ rfl ?_)))))))))))
      refine ⟨_, rfl, ?_⟩
      rw [decide_eq_false]
      · exact ⟨rfl, rfl⟩
      · intro h; have := h.1 x hxm; omega
    · -- c18.f
      refine w_skip (st_bn (st_tn (w_region (zm rfl (zd rfl (op_add' rfl rfl (by omega)) ?_)))))
      refine za rfl (wl_nil ?_)
      refine st_roundQ (x := i) (i + 1) [1] rfl (rfl) (.cons rfl (.nil _)) (.cons rfl (.nil _)) (by
          try dsimp only
          refine ⟨by omega, ?_⟩
          rw [take_snoc hz]; intro q hq; rcases List.mem_append.1 hq with hq | hq
          · exact hn q hq
          · simp only [List.mem_singleton] at hq; subst hq; omega) (by
          try dsimp only
          omega)
  · -- c8.f
    refine w_exit (st_te ?_)
    refine st_te ?_
    refine st_be (st_tn (w_seq (w_region (zd rfl (op_fieldAddr (off := 0) rfl tF68_0sa) (zd rfl (op_load1 rfl tO63sa (Ent.lab (l := 1) rfl (says_cel 0))) (zd rfl (op_lenT rfl tS63sa (Sl.ent (hS.tr.app _))) (zd rfl (op_leq rfl rfl) (zm rfl (wl_gsplit (t := 23) rfl (fun hg23 => ?_) (fun hg23 => ?_))))))))))
    · -- 23 is True
      refine wl_wanted_det rfl rfl rfl rfl rfl rfl rfl (op_fieldAddr (off := 5) rfl tF68_2sa) (wl_wanted_det rfl rfl rfl rfl rfl rfl rfl (op_load1 rfl tO66sa (Ent.lab (l := 1) rfl (says_cel 5))) (wl_wanted_det rfl rfl rfl rfl rfl rfl rfl (op_lenT rfl tS66sa (Sl.ent (hS.sy.app _))) (wl_wanted_det rfl rfl rfl rfl rfl rfl rfl (op_leq rfl rfl) (zd rfl (op_pick_t rfl rfl) (za rfl (wl_nil (st_tn (w_ret (st_ret (vs := [_]) [] Try.results34 ⟨rfl, trivial⟩ rfl ?_)))))))))
      refine ⟨_, rfl, ?_⟩
      rw [take_all (by omega)] at hn
      first | (have e1 : decide (shortP S) = decide ((S.syncs.length : Int) ≤ 6) := by { rw [decide_eq_decide]; exact ⟨fun h => by have := h.2.2; omega, fun h => ⟨hn, by omega, by omega⟩⟩ }; rw [e1]; exact ⟨rfl, rfl⟩) | (rw [decide_eq_false (fun h : shortP S => by have := h.2.1; omega)]; exact ⟨rfl, rfl⟩)
    · -- 23 is False
      refine wl_unwanted rfl rfl rfl rfl rfl rfl rfl rfl (wl_unwanted rfl rfl rfl rfl rfl rfl rfl rfl (wl_unwanted rfl rfl rfl rfl rfl rfl rfl rfl (wl_unwanted rfl rfl rfl rfl rfl rfl rfl rfl (zd rfl (op_pick_f rfl rfl) (za rfl (wl_nil (st_tn (w_ret (st_ret (vs := [_]) [] Try.results34 ⟨rfl, trivial⟩ rfl ?_)))))))))
      refine ⟨_, rfl, ?_⟩
      rw [take_all (by omega)] at hn
      first | (have e1 : decide (shortP S) = decide ((S.syncs.length : Int) ≤ 6) := by { rw [decide_eq_decide]; exact ⟨fun h => by have := h.2.2; omega, fun h => ⟨hn, by omega, by omega⟩⟩ }; rw [e1]; exact ⟨rfl, rfl⟩) | (rw [decide_eq_false (fun h : shortP S => by have := h.2.1; omega)]; exact ⟨rfl, rfl⟩)
def kindV (c : CallV) : Int := 1 + c.knd % 5
set_option maxHeartbeats 400000 in
set_option maxRecDepth 100000 in
theorem kind_any {σ : World} {F : List Res} {c : CallV} (hc : CallOk c) : FnT Try.prog σ F 89 [.agg (encCall c).toArray] [] (fun u ρ => u = .int .i64 (kindV c) ∧ ρ = []) := by
  refine fn_of 8 Try.func89 rfl Try.ntmps89 rfl ?_
  have hk := hc.knd
  refine w_seq (w_region (wl_op [] rfl rfl rfl rfl (op_box (T := 135) (l := 1) rfl) ?_))
  rintro _ _ ⟨b1, rfl, rfl⟩
  refine za rfl (wl_nil (st_tn (w_seq (w_region (zd rfl (op_fieldAddr (off := 2) rfl tF135_2sa) (zd rfl (op_load1 rfl tO5sa (Ent.lab (l := 1) rfl (says_cel 2))) (zd rfl (op_remN rfl rfl (by omega) (by omega)) ?_)))))))
  refine zd rfl (op_convI64 rfl (by rw [Try.underlying5]; rfl) Try.underlying3 (by omega)) ?_
  refine zd rfl (op_add' rfl rfl (by omega)) ?_
  refine za rfl (wl_nil (st_tn (w_ret (st_ret (vs := [_]) [] Try.results89 ⟨rfl, trivial⟩ rfl ?_))))
  refine ⟨_, rfl, ?_⟩
  exact ⟨rfl, rfl⟩
def idV (t : TreeV) (k : Nat) : Int := t.slot % 64 * 1048576 + 1 + k
section
variable {P : Program} {σ : World} {n : Nat} {F : List Res} {e : Env} {R : RL} {dst : Option Tmp} {ty : TypeId} {pos : String} {after : Array Edge} {guard : Option (Nat × Bool)}
theorem op_shl20 {t t2 : TypeId} {x y : Operand} {k' : IntKind} {a : Int} (hx : ev e x = some (.int .i64 a)) (hy : ev e y = some (.int k' 20)) (h0 : 0 ≤ a) (ha : a < 256) :
    OpT P σ n F ⟨dst, .binOp .shl t x y t2, ty, pos, after, guard⟩ e [] (Det (.int .i64 (a * 1048576))) :=
  opt_run fun A w hr _ => by
    have h : IntKind.i64.wrap (a * 2 ^ min (20 : Int).toNat IntKind.i64.bits) = a * 1048576 := by
      rw [show (2 : Int) ^ min (20 : Int).toNat IntKind.i64.bits = 1048576 from rfl]
      exact wrap_i64 (by omega)
    simp [execOp, hr.ev hx, hr.ev hy, eqGuard, Sem.run_bind, binOp, shift_shl_any .i64 k' a 20 (by decide)]
    exact h
theorem op_idxArrK {x y : Operand} {p : Addr} {T len k i : Nat} {kk : IntKind} (hx : ev e x = some (.pointer (some p))) (hy : ev e y = some (.int kk i)) (ht : arrB P T len k = true) (hi : i < len) :
    OpT P σ n F ⟨dst, .indexAddr T x y, ty, pos, after, guard⟩ e [] (Det (.pointer (some (p.add (i * k))))) :=
  opt_run fun a w hr ho => by
    unfold arrB at ht
    split at ht
    · rename_i m E hu
      split at ht
      · rename_i inf hinf
        simp only [Bool.and_eq_true, beq_iff_eq] at ht
        obtain ⟨rfl, h2⟩ := ht
        have hsz : (sizeOf E).run P w = .ok k w := by simp [sizeOf, typeInfo, hinf, h2]
        simp [execOp, hr.ev hx, hr.ev hy, Instr.indexAt, asIntOf, Sem.run_bind, run_underlying hu, Instr.sureAddr, hi, hsz]
      · simp at ht
    · simp at ht
end
set_option maxHeartbeats 400000 in
set_option maxRecDepth 100000 in
theorem traceId_any {σ : World} {F : List Res} {S : StoryV} {k : Nat} {t : TreeV} (hS : StOk σ F S) (hsh : shortP S) (hk : S.trees[k]? = some t) : FnT Try.prog σ F 62 [stV S, .int .i64 k] [] (fun u ρ => u = .int .i64 (idV t k) ∧ ρ = []) := by
  refine fn_of 17 Try.func62 rfl Try.ntmps62 rfl ?_
  have hle := hS.tr.i64
  have htm := List.mem_of_getElem? hk
  have hsb := hS.b.slot t htm
  have hkl := (List.getElem?_eq_some_iff.1 hk).1
  have hs3 := hsh.2.1
  refine w_seq (w_region (wl_op [] rfl rfl rfl rfl (op_box (T := 68) (l := 2) rfl) ?_))
  rintro _ _ ⟨b2, rfl, rfl⟩
  refine za rfl (wl_nil (st_tn (w_seq (w_region (zd rfl (op_fieldAddr (off := 0) rfl tF68_0sa) (zd rfl (op_load1 rfl tO63sa (Ent.lab (l := 2) rfl (says_cel 0))) (zm rfl (zd rfl (op_idx rfl rfl tS63sa (Sl.ent (hS.tr.app _)) (by omega)) ?_))))))))
  refine zd rfl (op_fieldAddr (off := 0) rfl tF102_0sa) (zd rfl (op_ldxf rfl tO5sa (hS.tr.app _) (by assumption) (by rfl)) ?_)
  refine zd rfl (op_remN rfl rfl (by omega) (by omega)) ?_
  refine zd rfl (op_convI64 rfl (by rw [Try.underlying5]; rfl) Try.underlying3 (by omega)) ?_
  refine zd rfl (op_shl20 rfl rfl (by omega) (by omega)) ?_
  refine zd rfl (op_add' rfl rfl (by omega)) ?_
  refine zm rfl (zd rfl (op_add' rfl rfl (by omega)) ?_)
  refine za rfl (wl_nil (st_tn (w_ret (st_ret (vs := [_]) [] Try.results62 ⟨rfl, trivial⟩ rfl ?_))))
  refine ⟨_, rfl, ?_⟩
  exact ⟨rfl, rfl⟩
def offO (S : StoryV) (i : Nat) : Int := match i with
  | 0 => S.o0
  | 1 => S.o1
  | 2 => S.o2
  | _ => S.o3
def offV (S : StoryV) (clk : Int) : Int := (offO S ((clk + 3) % 4).toNat).tmod 21
theorem offO_bd {S : StoryV} (h : StB S) (i : Nat) : -128 ≤ offO S i ∧ offO S i ≤ 127 := by
  unfold offO
  split
  · exact h.o0
  · exact h.o1
  · exact h.o2
  · exact h.o3
theorem offV_bd {S : StoryV} (h : StB S) (clk : Int) : -20 ≤ offV S clk ∧ offV S clk ≤ 20 := by
  have h1 := offO_bd h ((clk + 3) % 4).toNat
  unfold offV
  generalize offO S ((clk + 3) % 4).toNat = z at *
  have h2 := Int.tmod_eq_emod (a := z) (b := 21)
  split at h2 <;> omega
theorem tR65a : arrB Try.prog 65 4 1 = true := by kernel_rfl
theorem tO64a : oneB Try.prog 64 = true := by kernel_rfl
theorem drop_off {S : StoryV} : ∀ {i : Nat}, i < 4 → (stV S).cells.toList.drop (1 + i * 1) = .int .i8 (offO S i) :: (stV S).cells.toList.drop (2 + i)
  | 0, _ => rfl
  | 1, _ => rfl
  | 2, _ => rfl
  | 3, _ => rfl
theorem says_off {b i : Nat} {S : StoryV} {T : TypeId} (hi : i < 4) : Says (cel b (stV S).cells.toList T) (At (({ block := b, off := 0, spot := none } : Addr).add 1 |>.add (i * 1)) (.int .i8 (offO S i) :: (stV S).cells.toList.drop (2 + i))) := by
  rw [show ((({ block := b, off := 0, spot := none } : Addr).add 1).add (i * 1)) = ⟨b, 1 + i * 1, none⟩ by simp [Addr.add]]
  have := says_cel (b := b) (c := (stV S).cells.toList) (T := T) (1 + i * 1)
  rwa [drop_off hi] at this
set_option maxHeartbeats 400000 in
set_option maxRecDepth 100000 in
theorem offset_any {σ : World} {F : List Res} {S : StoryV} {clk : Int} (hS : StOk σ F S) (hc : 1 ≤ clk ∧ clk ≤ 4) : FnT Try.prog σ F 84 [stV S, .int .i64 clk] [] (fun u ρ => u = .int .i64 (offV S clk) ∧ ρ = []) := by
  refine fn_of 14 Try.func84 rfl Try.ntmps84 rfl ?_
  have hob := offO_bd hS.b ((clk + 3) % 4).toNat
  have hi4 : ((clk + 3) % 4).toNat < 4 := by omega
  refine w_seq (w_region (wl_op [] rfl rfl rfl rfl (op_box (T := 68) (l := 2) rfl) ?_))
  rintro _ _ ⟨b2, rfl, rfl⟩
  refine za rfl (wl_nil (st_tn (w_seq (w_region (zm rfl (zd rfl (op_convU64 rfl (by rw [Try.underlying3]; rfl) Try.underlying40 (by omega)) ?_))))))
  refine zd rfl (op_addU rfl rfl (by omega)) ?_
  refine zd rfl (op_val (v' := .int .u64 ((((clk + 3) % 4).toNat : Nat) : Int)) (by rw [Int.toNat_of_nonneg (by omega)]) (op_remN rfl rfl (by omega) (by omega))) ?_
  refine zd rfl (op_fieldAddr (off := 1) rfl tF68_1sa) (zd rfl (op_idxArrK (i := ((clk + 3) % 4).toNat) rfl rfl tR65a hi4) (zd rfl (op_load1 rfl tO64a (Ent.lab (l := 2) rfl (says_off hi4))) (zd rfl (op_convI64 rfl (by rw [Try.underlying64]; rfl) Try.underlying3 (by omega)) ?_)))
  refine zd rfl (op_rem rfl rfl (by decide)) ?_
  refine za rfl (wl_nil (st_tn (w_ret (st_ret (vs := [_]) [] Try.results84 ⟨rfl, trivial⟩ rfl ?_))))
  refine ⟨_, rfl, ?_⟩
  exact ⟨rfl, rfl⟩
end Go.Proofs.Ytbgddblfalahfaa
