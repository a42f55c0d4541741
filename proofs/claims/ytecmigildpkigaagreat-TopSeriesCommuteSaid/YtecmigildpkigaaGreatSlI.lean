/- make of a slice of one-cell elements. Conditions: none. -/
import Derived.Test.YtecmigildpkigaaGreatSlG
import Derived.Test.YtecmigildpkigaaGreatSlH
import Derived.Laws.MakeOwn
namespace Go.SL
open Go Go.RowKit
set_option linter.unusedSimpArgs false
section
variable {P : Program} {σ : World} {n : Nat} {F : List Res} {e : Env} {R : RL} {dst : Option Tmp} {ty : TypeId} {pos : String} {after : Array Edge} {guard : Option (Nat × Bool)}
def makeB (P : Program) (T E b : Nat) : Option Value := match P.underlying T, P.info? E with
  | some (.slice e), some i => if (e == E && i.size == 1 && i.bytes == b) = true then i.zero else none
  | _, _ => none
theorem op_makeSlice {α : Type} {enc : α → List Value} {T E b m lab : Nat} {x y : Operand} {k1 k2 : IntKind} {z : Value} {a0 : α} (hx : ev e x = some (.int k1 m)) (hy : ev e y = some (.int k2 m)) (ht : makeB P T E b = some z) (hk : ∀ a, (enc a).length = 1) (hz : z.cells = #[z]) (he : enc a0 = [z]) (hb : b * m ≤ 281474976710656) (hm : m ≤ maxLen) :
    OpT P σ n F ⟨dst, .makeSlice T x y, ty, pos, after, guard⟩ e [] (fun v ρ => ∃ a c, v = .slice a (List.replicate m a0).length c ∧ ρ = [(lab, slW E enc 1 v (List.replicate m a0))]) := by
  intro Q K a w hr ho kk
  unfold makeB at ht
  split at ht
  · rename_i e0 i hu hi
    split at ht
    · rename_i hc
      simp only [Bool.and_eq_true, beq_iff_eq] at hc
      obtain ⟨⟨rfl, h1⟩, rfl⟩ := hc
      have hrun : (execOp a.eval ⟨dst, .makeSlice T x y, ty, pos, after, guard⟩).run P w = .ok (.value (.slice (some ⟨w.heap.size, 0, none⟩) m m)) (w.alloc (.cells (madeCells z.cells (m * i.size)) e0)) := by
        simp only [execOp, Sem.run_bind]; rw [hr.ev hx, hr.ev hy]
        rw [run_make w T e0 i z hu hi ht k1 k2 m m (by omega) (by omega) (by rw [← Int.natCast_mul]; exact Int.ofNat_le.2 hb) (by unfold maxLen at hm; omega)]
        rfl
      unfold Oper.wp
      rw [hrun]
      have hcells : (madeCells z.cells (m * i.size)).toList = List.replicate m z := by
        rw [h1, Nat.mul_one, hz]
        unfold madeCells
        apply List.ext_getElem?
        intro j
        simp only [Array.toList_map, Array.toList_range, List.getElem?_map, List.getElem?_range', List.getElem?_replicate]
        by_cases hj : j < m
        · simp [hj, List.getElem?_range hj, Nat.mod_one]
        · simp [hj]
      refine kk _ _ _ ⟨_, _, by rw [List.length_replicate], rfl⟩ (ho.alloc ?_)
      have hfl : ((List.replicate m a0).map enc).flatten = List.replicate m z := by
        rw [List.map_replicate, he]
        induction m with
        | zero => rfl
        | succ m ih => rw [List.replicate_succ, List.flatten_cons, List.replicate_succ]; simp
      refine ⟨fun c hc => by obtain ⟨q, _, rfl⟩ := List.mem_map.1 hc; exact hk q, by simpa using hm, .inr ⟨w.heap.size, m, _, by simp, rfl, by simp, hm, by rw [h1]; simp [madeCells], ?_⟩⟩
      rw [hfl, hcells]; simp
    · simp at ht
  · simp at ht
end
end Go.SL
