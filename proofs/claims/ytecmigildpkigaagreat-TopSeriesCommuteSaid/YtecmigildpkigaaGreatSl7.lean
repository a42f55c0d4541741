/- The kit's contracts on slices sorted in place, told by owned slices. Conditions: none. -/
import Derived.Test.YtecmigildpkigaaGreatSl6
import Derived.Sort.Row
import Derived.Sort.Grow
namespace Go.SL
open Go.RowKit Go.Sort
set_option linter.unusedSimpArgs false
set_option linter.unusedVariables false
theorem flat_one {α : Type} {enc0 : α → Value} {enc : α → List Value} (he : ∀ a, enc a = [enc0 a]) (l : List α) : (l.map enc).flatten = l.map enc0 := by
  induction l with
  | nil => rfl
  | cons x l ih => simp only [List.map_cons, List.flatten_cons, he, ih, List.cons_append, List.nil_append]
section
variable {P : Program} {σ : World} {F : List Res} {α : Type} [Inhabited α] {enc0 : α → Value} {enc : α → List Value} {E : Nat}
theorem own_holds (he : ∀ a, enc a = [enc0 a]) {l : List α} {g c : Nat} {w : World} (ho : Own σ (slW E enc 1 (.slice (some ⟨g, 0, none⟩) l.length c) l :: F) w) : Holds enc0 w g 0 l.toArray ∧ l.length ≤ c ∧ g < w.heap.size := by
  obtain ⟨m, hm, hms⟩ := own_head ho
  obtain ⟨hk, hl, hv⟩ := hm
  rcases hv with ⟨hv, _⟩ | ⟨g', cap, cur, hv, rfl, h3, h4, h5, h6⟩
  · simp at hv
  · simp only [List.length_map] at hv h3 h6
    simp at hv; obtain ⟨rfl, rfl⟩ := hv
    have hg := hms.single
    refine ⟨fun j hj => ?_, h3, ?_⟩
    · have hjl : j < l.length := by simpa using hj
      have hfl := flat_one he l
      rw [hfl] at h6
      have h7 : cur.toList[j]? = some (enc0 l[j]) := by
        have h8 : (cur.toList.take (l.length * 1))[j]? = some (enc0 l[j]) := by rw [h6]; simp [hjl]
        rw [List.getElem?_take] at h8
        split at h8
        · exact h8
        · simp at h8
      refine ⟨?_, by simp [World.frozen?, hg]⟩
      simp only [World.cell?, hg, Nat.zero_add]
      simp only [Array.getElem?_toList] at h7
      have h9 : l.toArray[j]! = l[j] := by simp [hjl]
      rw [h9]; simpa using h7
    · rcases Nat.lt_or_ge g w.heap.size with h | h
      · exact h
      · rw [Array.getElem?_eq_none h] at hg; simp at hg
theorem own_putRow (he : ∀ a, enc a = [enc0 a]) {l l' : List α} {g c n : Nat} {os : Array Obj} {w : World} (ho : Own σ (slW E enc 1 (.slice (some ⟨g, 0, none⟩) l.length c) l :: F) w) (hl : l'.length = l.length) (m : Nat) (hm : m ≤ l'.length) :
    Own σ (slW E enc 1 (.slice (some ⟨g, 0, none⟩) (l'.take m).length c) (l'.take m) :: F) (grow (putRow enc0 (Sort.ahead w n) g 0 l'.toArray) os) := by
  obtain ⟨M, hM, hms⟩ := own_head ho
  obtain ⟨hk, hl0, hv⟩ := hM
  rcases hv with ⟨hv, _⟩ | ⟨g', cap, cur, hv, rfl, h3, h4, h5, h6⟩
  · simp at hv
  · simp only [List.length_map] at hv h3 h6 hl0
    simp at hv; obtain ⟨rfl, rfl⟩ := hv
    have hg := hms.single
    have hlt : g < w.heap.size := by
      rcases Nat.lt_or_ge g w.heap.size with h | h
      · exact h
      · rw [Array.getElem?_eq_none h] at hg; simp at hg
    have hsz : (putRow enc0 (Sort.ahead w n) g 0 l'.toArray).heap.size = w.heap.size := by simp [Sort.ahead]
    have hnew : (putRow enc0 (Sort.ahead w n) g 0 l'.toArray).heap[g]? = some (.cells (putCells enc0 0 l'.toArray cur) E (0, 0)) := by
      simp only [putRow, mapBlock, Sort.ahead, Array.getElem?_modify, if_true, hg]; rfl
    refine Own.swap (b := g) (o' := .cells (putCells enc0 0 l'.toArray cur) E (0, 0)) ho (fun m hm => ?_) ?_ rfl rfl rfl ?_ (fun i hi o h => ?_)
    · obtain ⟨_, _, hv⟩ := hm
      rcases hv with ⟨hv, _⟩ | ⟨g2, cap', cur', hv, rfl, _⟩
      · simp at hv
      · simp at hv; rw [← hv.1]; exact ⟨_, by simp [single]; rfl⟩
    · have hlen : (l'.take m).length = m := by rw [List.length_take]; omega
      refine ⟨fun x hx => by obtain ⟨a, _, rfl⟩ := List.mem_map.1 hx; rw [he]; rfl, by rw [List.length_map, hlen]; omega, .inr ⟨g, c, _, by rw [List.length_map], rfl, by rw [List.length_map, hlen]; omega, h4, by simpa [putCells] using h5, ?_⟩⟩
      have hfl := flat_one (α := α) he
      rw [hfl, List.length_map, hlen, Nat.mul_one]
      apply List.ext_getElem?
      intro j
      rw [List.getElem?_take, List.getElem?_map, List.getElem?_take]
      split
      · rename_i hj
        have hjl : j < l'.length := by omega
        have hjc : j < cur.size := by omega
        simp only [putCells, Array.getElem?_toList, Array.getElem?_mapIdx, Array.getElem?_eq_getElem hjc, Option.map_some]
        simp [hjl]
      · simp
    · show ((putRow enc0 (Sort.ahead w n) g 0 l'.toArray).heap ++ os)[g]? = _
      rw [Array.getElem?_append_left (by omega)]; exact hnew
    · have hi2 : i < w.heap.size := by
        rcases Nat.lt_or_ge i w.heap.size with h' | h'
        · exact h'
        · rw [Array.getElem?_eq_none h'] at h; simp at h
      show ((putRow enc0 (Sort.ahead w n) g 0 l'.toArray).heap ++ os)[i]? = _
      rw [Array.getElem?_append_left (by omega)]
      simp only [putRow, mapBlock, Sort.ahead, Array.getElem?_modify]
      rw [if_neg (by omega)]; exact h
/-- slices.Sort, out of the kit's two contracts. -/
theorem fn_sort (he : ∀ a, enc a = [enc0 a]) {f : Nat} {srt : List α → List α} (hlen : ∀ l, (srt l).length = l.length)
    (h1 : ∀ (g cap : Nat) (l : List α) (w : World), Holds enc0 w g 0 l.toArray → g < w.heap.size → l.length < 4611686018427387904 → Calls P f #[.slice (some ⟨g, 0, none⟩) l.length cap] w fun e w' => e = .returned (.tuple #[]) ∧ ∃ n os, w' = grow (putRow enc0 (Sort.ahead w n) g 0 (srt l).toArray) os)
    (h0 : ∀ (a : Option Addr) (cap : Nat) (w : World), Calls P f #[.slice a 0 cap] w fun e w' => e = .returned (.tuple #[]) ∧ w' = w)
    {l : List α} {a : Option Addr} {c : Nat} (lab : Nat) (hl : l.length < 4611686018427387904) :
    FnT P σ F f [.slice a l.length c] [(lab, slW E enc 1 (.slice a l.length c) l)] (fun u ρ => u = .tuple #[] ∧ ρ = [(lab, slW E enc 1 (.slice a l.length c) (srt l))]) := by
  intro w ho
  cases a with
  | none =>
    have : l = [] := by
      obtain ⟨m, hm, hms⟩ := own_head ho
      obtain ⟨_, _, hv⟩ := hm
      rcases hv with ⟨hv, hn⟩ | ⟨g', cap, cur, hv, _⟩
      · simpa using hn
      · simp at hv
    subst this
    have hs : srt [] = [] := List.eq_nil_of_length_eq_zero (hlen [])
    refine (h0 none c w).mono ?_
    rintro e w' ⟨rfl, rfl⟩
    exact ⟨_, _, rfl, ⟨rfl, rfl⟩, by rw [hs]; exact ho⟩
  | some ad =>
    obtain ⟨g, rfl⟩ : ∃ g, ad = ⟨g, 0, none⟩ := by
      obtain ⟨m, hm, hms⟩ := own_head ho
      obtain ⟨_, _, hv⟩ := hm
      rcases hv with ⟨hv, hn⟩ | ⟨g', cap, cur, hv, _⟩
      · simp at hv
      · simp at hv; exact ⟨g', hv.1⟩
    obtain ⟨hH, hc, hg⟩ := own_holds he ho
    refine (h1 g c l w hH hg hl).mono ?_
    rintro e w' ⟨rfl, n, os, rfl⟩
    refine ⟨_, _, rfl, ⟨rfl, rfl⟩, ?_⟩
    have := own_putRow (n := n) (os := os) he ho (hlen l) (srt l).length (Nat.le_refl _)
    rw [List.take_length, hlen] at this
    exact this
/-- slices.Compact, out of the kit's two contracts. -/
theorem fn_compact (he : ∀ a, enc a = [enc0 a]) {f : Nat} {cmp : List α → List α} (hlen : ∀ l, (cmp l).length ≤ l.length) (hnil : cmp [] = [])
    (h1 : ∀ (g cap : Nat) (l : List α) (w : World), Holds enc0 w g 0 l.toArray → l.length ≤ 9223372036854775807 → l.length ≤ cap → Calls P f #[.slice (some ⟨g, 0, none⟩) l.length cap] w fun e w' => e = .returned (.slice (some ⟨g, 0, none⟩) (cmp l).length cap) ∧ ∃ n z, w' = putRow enc0 (Sort.ahead w n) g 0 (cmp l ++ List.replicate (l.length - (cmp l).length) z).toArray)
    (h0 : ∀ (a : Option Addr) (cap : Nat) (w : World), Calls P f #[.slice a 0 cap] w fun e w' => e = .returned (.slice a 0 cap) ∧ w' = w)
    {l : List α} {a : Option Addr} {c : Nat} (lab lab' : Nat) (hl : l.length ≤ 9223372036854775807) :
    FnT P σ F f [.slice a l.length c] [(lab, slW E enc 1 (.slice a l.length c) l)] (fun u ρ => u = .slice a (cmp l).length c ∧ ρ = [(lab', slW E enc 1 (.slice a (cmp l).length c) (cmp l))]) := by
  intro w ho
  cases a with
  | none =>
    have : l = [] := by
      obtain ⟨m, hm, hms⟩ := own_head ho
      obtain ⟨_, _, hv⟩ := hm
      rcases hv with ⟨hv, hn⟩ | ⟨g', cap, cur, hv, _⟩
      · simpa using hn
      · simp at hv
    subst this
    refine (h0 none c w).mono ?_
    rintro e w' ⟨rfl, rfl⟩
    exact ⟨_, _, rfl, ⟨by rw [hnil]; rfl, rfl⟩, by rw [hnil]; exact ho⟩
  | some ad =>
    obtain ⟨g, rfl⟩ : ∃ g, ad = ⟨g, 0, none⟩ := by
      obtain ⟨m, hm, hms⟩ := own_head ho
      obtain ⟨_, _, hv⟩ := hm
      rcases hv with ⟨hv, hn⟩ | ⟨g', cap, cur, hv, _⟩
      · simp at hv
      · simp at hv; exact ⟨g', hv.1⟩
    obtain ⟨hH, hc, hg⟩ := own_holds he ho
    refine (h1 g c l w hH hl hc).mono ?_
    rintro e w' ⟨rfl, n, z, rfl⟩
    refine ⟨_, _, rfl, ⟨rfl, rfl⟩, ?_⟩
    have := hlen l
    have h2 := own_putRow (n := n) (os := #[]) (l' := cmp l ++ List.replicate (l.length - (cmp l).length) z) he ho (by rw [List.length_append, List.length_replicate]; omega) (cmp l).length (by rw [List.length_append]; omega)
    rw [List.take_left, grow_empty] at h2
    exact h2
end
end Go.SL
