/- Bytes: []byte(s), copy from a string, shifts and ors of bytes. Conditions: none. -/
import Derived.Test.YtecmigildpkigaaGreatSlU
import Derived.Laws.IdiomStrings
import Derived.Laws.CopyRow
namespace Go.SL
open Go Go.RowKit
set_option linter.unusedVariables false
set_option linter.unusedSimpArgs false
/-- The bytes of a string, to be read. -/
def strB (E g cap : Nat) (s : List UInt8) : Res := fun m => ∃ fr, m = single g (.cells (bytesRow (str s) cap) E fr) ∧ s.length ≤ cap ∧ s.length ≤ maxLen
theorem flat_U (s : List UInt8) : (s.map encU).flatten = s.map fun b => Value.int .u8 b.toNat := by rw [flat_encU, List.map_map]; rfl
theorem Sl.labStr {σ : World} {R : RL} {F : List Res} {E g cap : Nat} {s : List UInt8} (lab : Nat) (h : getL R lab = some (strB E g cap s)) (hl : s.length ≤ maxLen) : Sl σ (rs R ++ F) encU 1 (.slice (some ⟨g, 0, none⟩) s.length cap) s := by
  refine ⟨Ent.lab h fun m w hm hs => ?_, hl⟩
  obtain ⟨fr, rfl, h1, h2⟩ := hm
  have hg := hs.single
  refine ⟨fun c hc => by obtain ⟨q, _, rfl⟩ := List.mem_map.1 hc; rfl, by simpa using h2, .inr ⟨g, 0, cap, by simp, by simpa using h1, fun j v hj => ?_⟩⟩
  rw [flat_U] at hj
  have hj' : j < s.length := by
    rcases Nat.lt_or_ge j s.length with h | h
    · exact h
    · rw [List.getElem?_eq_none (by simpa using h)] at hj; simp at hj
  simp only [World.cell?, hg, Nat.zero_add]
  simp [bytesRow, str, Array.getElem?_append, hj'] at hj ⊢
  exact hj
theorem take_splice {α : Type} (L S : List α) (n lo : Nat) (h : lo + S.length ≤ n) (hn : n ≤ L.length) : List.take n (L.take lo ++ S ++ L.drop (lo + S.length)) = (L.take n).take lo ++ S ++ (L.take n).drop (lo + S.length) := by
  have hA : (L.take lo ++ S).length = lo + S.length := by rw [List.length_append, List.length_take]; omega
  rw [List.take_append, hA, List.take_of_length_le (by omega), List.take_take, Nat.min_eq_left (by omega), List.drop_take]
section
variable {P : Program} {σ : World} {n : Nat} {F : List Res} {e : Env} {R : RL} {dst : Option Tmp} {ty : TypeId} {pos : String} {after : Array Edge} {guard : Option (Nat × Bool)}
theorem op_strBytes {T T' E lab : Nat} {x : Operand} {s : List UInt8} (hx : ev e x = some (.string (str s))) (hs : P.underlying T = some .string) (hd : P.underlying T' = some (.slice E)) (he : P.underlying E = some (.int .u8)) (hl : s.length ≤ maxLen) :
    OpT P σ n F ⟨dst, .convert T T' x, ty, pos, after, guard⟩ e [] (fun v ρ => ∃ g c, v = .slice (some ⟨g, 0, none⟩) s.length c ∧ ρ = [(lab, strB E g c s)]) := by
  intro Q K a w hr ho kk
  have hrun := run_bytes_of_string (P := P) w T T' E (str s) hs hd he
  unfold Oper.wp
  have hexec : (execOp a.eval ⟨dst, .convert T T' x, ty, pos, after, guard⟩).run P w = .ok (.value (.slice (some ⟨w.heap.size, 0, none⟩) (str s).size (grownCap w (str s).size 0 E))) (w.drew.alloc (.cells (bytesRow (str s) (grownCap w (str s).size 0 E)) E ((bytesRow (str s) (grownCap w (str s).size 0 E)).size, (bytesRow (str s) (grownCap w (str s).size 0 E)).size + 1))) := by
    simp only [execOp, hr.ev hx, Sem.run_bind, hrun]; rfl
  rw [hexec]
  have hge := grownCap_ge w (str s).size 0 E
  rw [str_size] at hge ⊢
  refine kk _ _ _ ⟨_, _, rfl, rfl⟩ (Own.alloc (w := w.drew) (ho.drawn _) ⟨_, rfl, hge, hl⟩)
theorem op_copyS {T T2 E lab c lo m : Nat} {x y : Operand} {a : Option Addr} {buf s : List UInt8} (hx : ev e x = some (.slice (SL.sub a c lo 1) (buf.length - lo) (c - lo))) (hy : ev e y = some (.string (str s))) (hT : sliceB P T E 1 = true) (h : lo + s.length ≤ buf.length) (hm : m = buf.length) :
    OpT P σ n F ⟨dst, .call ⟨.builtin .copy, #[x, y], #[T, T2]⟩, ty, pos, after, guard⟩ e [(lab, slW E encU 1 (.slice a m c) buf)] (fun u ρ => u = .int .i64 s.length ∧ ρ = [(lab, slW E encU 1 (.slice a m c) (buf.take lo ++ s ++ buf.drop (lo + s.length)))]) := by
  subst hm
  intro Q K A w hr ho kk
  obtain ⟨i, hu, hi, hsz⟩ := sliceB_spec hT
  have hcells : (((str s).extract 0 s.length).data.map fun b => Value.int .u8 b.toNat).toList = s.map fun b => Value.int .u8 b.toNat := by
    rw [str_extract, List.drop_zero, List.take_length]; simp [str]
  have hmin : Nat.min (str s).size (buf.length - lo) = s.length := by rw [str_size]; exact Nat.min_eq_left (by omega)
  have hnew : (buf.take lo ++ s ++ buf.drop (lo + s.length)).length = buf.length := by simp; omega
  have main : ∃ w', (Builtin.copy_ #[T, T2] ty #[.slice (SL.sub a c lo 1) (buf.length - lo) (c - lo), .string (str s)]).run P w = .ok (.int .i64 s.length) w' ∧ Own σ (slW E encU 1 (.slice a buf.length c) (buf.take lo ++ s ++ buf.drop (lo + s.length)) :: F) w' := by
    by_cases h0 : s = []
    · subst h0
      refine ⟨w, ?_, ?_⟩
      · cases hq : SL.sub a c lo 1 with
        | none => simp [Builtin.copy_, run_underlying hu, Builtin.lenOf, Builtin.firstCells, sizeOf, typeInfo, hi, Sem.run_bind, goInt, str, ByteArray.size]
        | some ad => simp [Builtin.copy_, run_underlying hu, Builtin.lenOf, Builtin.firstCells, sizeOf, typeInfo, hi, Sem.run_bind, goInt, storeCells, str, ByteArray.size]
      · simp only [List.append_nil, List.length_nil, Nat.add_zero, List.take_append_drop]; exact ho
    · have hpos : 0 < s.length := List.length_pos_iff.2 h0
      obtain ⟨M, hM, hMs⟩ := own_head ho
      obtain ⟨hk1, hl1, hv⟩ := hM
      rcases hv with ⟨_, hn⟩ | ⟨g, cap, cur, hva, rfl, h3, h4, h5, h6⟩
      · have : buf = [] := by simpa using hn
        subst this; simp only [List.length_nil] at h; omega
      · simp only [List.length_map] at hva h3 h5 h6 hl1
        simp at hva
        obtain ⟨rfl, rfl⟩ := hva
        have hg := hMs.single
        have hsub : SL.sub (some ⟨g, 0, none⟩) c lo 1 = some ⟨g, lo, none⟩ := by
          unfold SL.sub; rw [if_neg (by omega)]; simp [Addr.add_mid]
        rw [hsub]
        have hst := run_storeCells_at P g lo E (s.map fun b => Value.int .u8 b.toNat) 0 cur w hg (by simp; omega) (fun v hv => by obtain ⟨q, _, rfl⟩ := List.mem_map.1 hv; rfl)
        simp only [Nat.add_zero, List.length_map] at hst
        have hmin' := hmin.symm
        refine ⟨_, by
          have hz : List.take s.length (List.map (fun b => Value.int .u8 (b.toNat : Int)) (str s).data.toList) = s.map fun b => Value.int .u8 (b.toNat : Int) := by simp [str, List.take_of_length_le]
          simp [Builtin.copy_, run_underlying hu, Builtin.lenOf, Builtin.firstCells, sizeOf, typeInfo, hi, Sem.run_bind, goInt, ← hmin', hz, hst]
          rfl, ?_⟩
        refine Own.swap (b := g) (o' := _) ho (fun m hm => ?_) ?_ rfl rfl rfl (setRow_heap w g cur _ E _ hg) (fun j hj o' h => by rw [setRow_other w g j _ hj]; exact h)
        · obtain ⟨_, _, hv⟩ := hm
          rcases hv with ⟨hv, _⟩ | ⟨g', cap', cur', hv, rfl, _⟩
          · simp at hv
          · simp at hv; rw [← hv.1]; exact ⟨_, by simp [single]; rfl⟩
        · refine ⟨fun x hx => by obtain ⟨q, _, rfl⟩ := List.mem_map.1 hx; rfl, by rw [List.length_map, hnew]; exact hl1, .inr ⟨g, c, _, by rw [List.length_map, hnew], rfl, by rw [List.length_map, hnew]; exact h3, h4, ?_, ?_⟩⟩
          · simp [h5]; omega
          · rw [List.length_map, hnew, flat_U]
            rw [flat_U] at h6
            simp only [Nat.mul_one] at h6 h5 ⊢
            rw [List.map_append, List.map_append, List.map_take, List.map_drop, ← h6]
            have hc : cur.toList.length = c := by rw [Array.length_toList]; exact h5
            have := take_splice cur.toList (s.map fun b => Value.int .u8 b.toNat) buf.length lo (by simpa using h) (by omega)
            simp only [List.length_map] at this
            rw [← List.append_assoc]; exact this
  obtain ⟨w', hrun, hown⟩ := main
  unfold Oper.wp
  have : (execOp A.eval ⟨dst, .call ⟨.builtin .copy, #[x, y], #[T, T2]⟩, ty, pos, after, guard⟩).run P w = .ok (.value (.int .i64 s.length)) w' := by
    simp [execOp, resolve, hr.ev hx, hr.ev hy, invoke, builtin, Sem.run_bind, hrun]
  rw [this]
  exact kk _ _ _ ⟨rfl, rfl⟩ hown
end
end Go.SL
