/- Contracts: the keys of a map, collected and sorted (layer 9). Conditions: none. -/
import Derived.Test.YtgdjnjbipemdcaaProg
import Derived.Test.YtgdjnjbipemdcaaShelf
import Derived.Test.YtgdjnjbipemdcaaIter
import Derived.Test.YtgdjnjbipemdcaaSlN
import Derived.Test.YtgdjnjbipemdcaaSlV
import Derived.Test.YtgdjnjbipemdcaaSl7
import Derived.Test.YtgdjnjbipemdcaaSlF
namespace Go.Proofs.Ytgdjnjbipemdcaa
open Go Go.SL Go.RowKit
set_option linter.unusedVariables false
set_option linter.unusedSimpArgs false

def srt (l : List Int) : List Int := l.mergeSort fun x y => decide (x ≤ y)
theorem length_srt (l : List Int) : (srt l).length = l.length := List.length_mergeSort l
theorem mem_srt {l : List Int} {x : Int} : x ∈ srt l ↔ x ∈ l := List.mem_mergeSort
theorem srt_perm (l : List Int) : (srt l).Perm l := List.mergeSort_perm l _
/-- A new list of numbers. -/
def NewZ (l : List Int) (lab : Nat) (u : Value) (ρ : RL) : Prop := ∃ a c, u = .slice a l.length c ∧ ρ = [(lab, slW 3 SL.encZ 1 (.slice a l.length c) l)]
theorem sorts_in (m : Nat) : AnyZI.SortsIn Try.prog Try.sorted60_ren Fence.wide m :=
  ⟨fun blk off cap ss W hH hblk hsz => callsIn_wide.2 (Try.slices_Sort_int blk off cap ss W hH hblk hsz), fun p cap W => callsIn_wide.2 (Try.slices_Sort_int_none p cap W)⟩
/-- The bounds of keys. -/
def I64 (x : Int) : Prop := -9223372036854775808 ≤ x ∧ x ≤ 9223372036854775807
theorem wf_of {x : Int} (h : I64 x) : (Lit.int .i64 x).wf = true := by
  obtain ⟨h1, h2⟩ := h
  simp [Lit.wf, IntKind.min, IntKind.max, IntKind.signed, IntKind.bits]; omega
theorem flat_Z (l : List Int) : (l.map SL.encZ).flatten = l.map Go.encZ := flat_one (enc0 := Go.encZ) (enc := SL.encZ) (fun _ => rfl) l
section
variable {σ : World} {F : List Res} {ν : Type} {encV : ν → Value} {b bb : Nat} {l : List (Int × ν)}
theorem gives_bool (hb : Ent σ F (At ⟨bb, 0, none⟩ [.map (some b)])) (hm : Mr σ F KZ encV (.map (some b)) l) (hk : ∀ p ∈ l, I64 p.1) (hl : l.length ≤ 1099511627776) {w : World} (ho : SL.Own σ F w) (n : Nat) (hn : 1 ≤ n) :
    ∃ D : DataW Unit, Maps.size D = l.length ∧ (intKeys D).Perm (l.map Prod.fst) ∧ SeqGives Fence.wide n Try.prog 73 #[.pointer (some ⟨bb, 0, none⟩)] Go.encZ (fun ss => ss.Perm (intKeys D)) (Maps.size D) w := by
  obtain ⟨b', o', e, hr⟩ := hb w ho
  cases e
  have hcell := hr 0 (.map (some b)) rfl
  rcases hm w ho with ⟨h1, _⟩ | ⟨b2, bs, clock, h1, h2, h3⟩
  · cases h1
  · cases h1
    obtain ⟨D, h4, h5, h6⟩ := owns_of Try.underlying3 h2 h3 (fun p hp => wf_of (hk p hp)) (by unfold maxLen; omega)
    exact ⟨D, h5, h6, AnyZI.keys_gives (ρ := Try.keys61_ren) { Try.keys61 with } Fence.wide n trivial rfl hn bb b l.length D w (cell_lt hcell) hcell h4⟩
theorem gives_int (hb : Ent σ F (At ⟨bb, 0, none⟩ [.map (some b)])) (hm : Mr σ F KZ encV (.map (some b)) l) (hk : ∀ p ∈ l, I64 p.1) (hl : l.length ≤ 1099511627776) {w : World} (ho : SL.Own σ F w) (n : Nat) (hn : 1 ≤ n) :
    ∃ D : DataW Unit, Maps.size D = l.length ∧ (intKeys D).Perm (l.map Prod.fst) ∧ SeqGives Fence.wide n Try.prog 75 #[.pointer (some ⟨bb, 0, none⟩)] Go.encZ (fun ss => ss.Perm (intKeys D)) (Maps.size D) w := by
  obtain ⟨b', o', e, hr⟩ := hb w ho
  cases e
  have hcell := hr 0 (.map (some b)) rfl
  rcases hm w ho with ⟨h1, _⟩ | ⟨b2, bs, clock, h1, h2, h3⟩
  · cases h1
  · cases h1
    obtain ⟨D, h4, h5, h6⟩ := owns_of Try.underlying3 h2 h3 (fun p hp => wf_of (hk p hp)) (by unfold maxLen; omega)
    exact ⟨D, h5, h6, AnyZI.keys_gives (ρ := Try.keys70_ren) { Try.keys70 with } Fence.wide n trivial rfl hn bb b l.length D w (cell_lt hcell) hcell h4⟩
theorem sorted_gives {g : Nat} {gn : Func} (lab : Nat) (eg : ∀ args w, (callFunc g args).run Try.prog w = .ok (.enter g args) w) (hl : l.length ≤ 1099511627776)
    (hg : ∀ w, SL.Own σ F w → ∀ n, 1 ≤ n → ∃ D : DataW Unit, Maps.size D = l.length ∧ (intKeys D).Perm (l.map Prod.fst) ∧ SeqGives Fence.wide n Try.prog g #[.pointer (some ⟨bb, 0, none⟩)] Go.encZ (fun ss => ss.Perm (intKeys D)) (Maps.size D) w) :
    FnT Try.prog σ F 60 [.func (.func g) #[] #[.pointer (some ⟨bb, 0, none⟩)]] [] (NewZ (srt (l.map Prod.fst)) lab) := by
  intro w ho
  have ho' : SL.Own σ F w := ho
  obtain ⟨D, h1, h2, hseq⟩ := hg w ho' 2 (by omega)
  refine ((callsIn_wide (n := 5)).1 (AnyZI.sorted_in Try.sorted60 Fence.wide 5 trivial trivial trivial trivial rfl (by omega) (sorts_in _) (enters_of Try.func54 (by kernel_rfl) rfl) g #[.pointer (some ⟨bb, 0, none⟩)] trivial eg _ _ (by rw [h1]; unfold maxLen; omega) (by rw [h1]; omega) w hseq)).mono ?_
  rintro e W' ⟨u, ss, rfl, hS, hrow, _, hbel⟩
  have hsort : (ss.mergeSort fun x y => decide (x ≤ y)) = srt (l.map Prod.fst) := mergeSort_of_perm_i (hS.trans h2)
  have hlen : ss.length = (srt (l.map Prod.fst)).length := by rw [length_srt]; exact (hS.trans h2).length_eq
  rw [hsort, hlen, ← flat_Z] at hrow
  obtain ⟨a, c, rfl, hown⟩ := own_row ho' hbel hrow (fun _ => rfl) (by rw [length_srt, List.length_map]; unfold maxLen; omega)
  exact ⟨_, _, rfl, ⟨a, c, rfl, rfl⟩, hown⟩
theorem collect_gives {g : Nat} {gn : Func} (lab : Nat) (eg : ∀ args w, (callFunc g args).run Try.prog w = .ok (.enter g args) w) (hl : l.length ≤ 1099511627776)
    (hg : ∀ w, SL.Own σ F w → ∀ n, 1 ≤ n → ∃ D : DataW Unit, Maps.size D = l.length ∧ (intKeys D).Perm (l.map Prod.fst) ∧ SeqGives Fence.wide n Try.prog g #[.pointer (some ⟨bb, 0, none⟩)] Go.encZ (fun ss => ss.Perm (intKeys D)) (Maps.size D) w) :
    FnT Try.prog σ F 68 [.func (.func g) #[] #[.pointer (some ⟨bb, 0, none⟩)]] [] (fun u ρ => ∃ ss a c, ss.Perm (l.map Prod.fst) ∧ u = .slice a ss.length c ∧ ρ = [(lab, slW 3 SL.encZ 1 (.slice a ss.length c) ss)]) := by
  intro w ho
  have ho' : SL.Own σ F w := ho
  obtain ⟨D, h1, h2, hseq⟩ := hg w ho' 2 (by omega)
  refine ((callsIn_wide (n := 4)).1 (AnyZI.collect_in (ρ := Try.sorted60_ren) { Try.sorted60 with } Fence.wide 4 trivial trivial rfl (by omega) g #[.pointer (some ⟨bb, 0, none⟩)] trivial eg _ _ (by rw [h1]; unfold maxLen; omega) (by rw [h1]; omega) w hseq)).mono ?_
  rintro e W' ⟨u, ss, rfl, hS, hrow, _, hbel⟩
  have hlen : ss.length = l.length := by rw [(hS.trans h2).length_eq, List.length_map]
  rw [← flat_Z] at hrow
  obtain ⟨a, c, rfl, hown⟩ := own_row ho' hbel hrow (fun _ => rfl) (by unfold maxLen; omega)
  exact ⟨_, _, rfl, ⟨ss, a, c, hS.trans h2, rfl, rfl⟩, hown⟩
end
theorem sortedB {σ : World} {F : List Res} {ν : Type} {encV : ν → Value} {b bb : Nat} {l : List (Int × ν)} (lab : Nat) (hb : Ent σ F (At ⟨bb, 0, none⟩ [.map (some b)])) (hm : Mr σ F KZ encV (.map (some b)) l) (hk : ∀ p ∈ l, I64 p.1) (hl : l.length ≤ 1099511627776) :
    FnT Try.prog σ F 60 [.func (.func 73) #[] #[.pointer (some ⟨bb, 0, none⟩)]] [] (NewZ (srt (l.map Prod.fst)) lab) :=
  sorted_gives (gn := default) lab (enters_of Try.func73 (by kernel_rfl) rfl) hl fun w ho n hn => gives_bool hb hm hk hl ho n hn
theorem sortedZ {σ : World} {F : List Res} {ν : Type} {encV : ν → Value} {b bb : Nat} {l : List (Int × ν)} (lab : Nat) (hb : Ent σ F (At ⟨bb, 0, none⟩ [.map (some b)])) (hm : Mr σ F KZ encV (.map (some b)) l) (hk : ∀ p ∈ l, I64 p.1) (hl : l.length ≤ 1099511627776) :
    FnT Try.prog σ F 60 [.func (.func 75) #[] #[.pointer (some ⟨bb, 0, none⟩)]] [] (NewZ (srt (l.map Prod.fst)) lab) :=
  sorted_gives (gn := default) lab (enters_of Try.func75 (by kernel_rfl) rfl) hl fun w ho n hn => gives_int hb hm hk hl ho n hn
theorem collectB {σ : World} {F : List Res} {ν : Type} {encV : ν → Value} {b bb : Nat} {l : List (Int × ν)} (lab : Nat) (hb : Ent σ F (At ⟨bb, 0, none⟩ [.map (some b)])) (hm : Mr σ F KZ encV (.map (some b)) l) (hk : ∀ p ∈ l, I64 p.1) (hl : l.length ≤ 1099511627776) :
    FnT Try.prog σ F 68 [.func (.func 73) #[] #[.pointer (some ⟨bb, 0, none⟩)]] [] (fun u ρ => ∃ ss a c, ss.Perm (l.map Prod.fst) ∧ u = .slice a ss.length c ∧ ρ = [(lab, slW 3 SL.encZ 1 (.slice a ss.length c) ss)]) :=
  collect_gives (gn := default) lab (enters_of Try.func73 (by kernel_rfl) rfl) hl fun w ho n hn => gives_bool hb hm hk hl ho n hn
set_option maxHeartbeats 400000 in
set_option maxRecDepth 100000 in
theorem keysB {σ : World} {F : List Res} {v : Value} (lab : Nat) :
    FnT Try.prog σ F 61 [v] [] (fun u ρ => ∃ b, u = .func (.func 73) #[] #[.pointer (some ⟨b, 0, none⟩)] ∧ ρ = [(lab, cel b v.cells.toList 90)]) := by
  refine fn_of 4 Try.func61 rfl Try.ntmps61 rfl ?_
  refine w_seq ?_
  refine w_region ?_
  refine wl_op [] rfl rfl rfl rfl (op_box (T := 90) (l := 1) rfl) ?_
  rintro _ _ ⟨b1, rfl, rfl⟩
  refine wl_det rfl rfl rfl (op_assign rfl) ?_
  refine wl_nil ?_
  refine st_tn ?_
  refine w_seq ?_
  refine w_region ?_
  refine wl_det rfl rfl rfl (op_makeFunc rfl rfl) ?_
  refine wl_det rfl rfl rfl (op_assign rfl) ?_
  refine wl_nil ?_
  refine st_tn ?_
  refine w_ret ?_
  refine st_ret (vs := [_]) [1] Try.results61 ⟨rfl, trivial⟩ rfl ?_
  refine ⟨[(lab, _)], rfl, ?_⟩
  exact ⟨b1, rfl, rfl⟩

set_option maxHeartbeats 400000 in
set_option maxRecDepth 100000 in
theorem keysZ {σ : World} {F : List Res} {v : Value} (lab : Nat) :
    FnT Try.prog σ F 70 [v] [] (fun u ρ => ∃ b, u = .func (.func 75) #[] #[.pointer (some ⟨b, 0, none⟩)] ∧ ρ = [(lab, cel b v.cells.toList 72)]) := by
  refine fn_of 4 Try.func70 rfl Try.ntmps70 rfl ?_
  refine w_seq ?_
  refine w_region ?_
  refine wl_op [] rfl rfl rfl rfl (op_box (T := 72) (l := 1) rfl) ?_
  rintro _ _ ⟨b1, rfl, rfl⟩
  refine wl_det rfl rfl rfl (op_assign rfl) ?_
  refine wl_nil ?_
  refine st_tn ?_
  refine w_seq ?_
  refine w_region ?_
  refine wl_det rfl rfl rfl (op_makeFunc rfl rfl) ?_
  refine wl_det rfl rfl rfl (op_assign rfl) ?_
  refine wl_nil ?_
  refine st_tn ?_
  refine w_ret ?_
  refine st_ret (vs := [_]) [1] Try.results70 ⟨rfl, trivial⟩ rfl ?_
  refine ⟨[(lab, _)], rfl, ?_⟩
  exact ⟨b1, rfl, rfl⟩

end Go.Proofs.Ytgdjnjbipemdcaa
