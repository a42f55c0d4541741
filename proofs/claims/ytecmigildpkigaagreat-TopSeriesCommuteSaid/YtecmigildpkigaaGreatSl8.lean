/- Fields of values, conditions on Booleans. -/
import Derived.Test.YtecmigildpkigaaGreatSl6
namespace Go.SL
open Go.RowKit
set_option linter.unusedVariables false
set_option linter.unusedSimpArgs false
section
variable {P : Program} {σ : World} {n : Nat} {F : List Res} {e : Env} {R : RL} {dst : Option Tmp} {ty : TypeId} {pos : String} {after : Array Edge} {guard : Option (Nat × Bool)}
def fieldVB (P : Program) (T f off ft : Nat) : Bool := match P.underlying T with
  | some (.struct fs) => match fs[f]? with
    | some fd => fd.offset == off && fd.type == ft
    | none => false
  | _ => false
theorem fieldVB_spec {T f off ft : Nat} (h : fieldVB P T f off ft = true) : ∃ fs fd, P.underlying T = some (.struct fs) ∧ fs[f]? = some fd ∧ fd.offset = off ∧ fd.type = ft := by
  unfold fieldVB at h
  split at h
  · rename_i fs hu
    split at h
    · rename_i fd hf; simp at h; exact ⟨fs, fd, hu, hf, h.1, h.2⟩
    · simp at h
  · simp at h
theorem op_field1 {x : Operand} {cs : Array Value} {T f off ft : Nat} {v : Value} (hx : ev e x = some (.agg cs)) (h : fieldVB P T f off ft = true) (h1 : oneB P ft = true) (hv : cs[off]? = some v) : OpT P σ n F ⟨dst, .field T x f, ty, pos, after, guard⟩ e [] (Det v) :=
  op_field (off := 0) hx fun w => by
    obtain ⟨fs, fd, hu, hf, rfl, rfl⟩ := fieldVB_spec h
    obtain ⟨d, i, hd, hr, _, _⟩ := oneB_spec h1
    have ha : (isAgg fd.type).run P w = .ok false w := by unfold isAgg; rw [Sem.run_bind, run_underlying hd w]; cases d <;> first | rfl | (exact absurd hr (by simp [TypeDesc.isRow]))
    simp [Instr.field, run_underlying hu, Sem.run_bind, hf, asAgg, part, ha, hv]
theorem op_fieldA {x : Operand} {cs : Array Value} {T f off ft s : Nat} (hx : ev e x = some (.agg cs)) (h : fieldVB P T f off ft = true) (h1 : aggB P ft s = true) : OpT P σ n F ⟨dst, .field T x f, ty, pos, after, guard⟩ e [] (Det (.agg (cs.extract off (off + s)))) :=
  op_field (off := 0) hx fun w => by
    obtain ⟨fs, fd, hu, hf, rfl, rfl⟩ := fieldVB_spec h
    obtain ⟨d, i, hd, hr, hi, rfl⟩ := aggB_spec h1
    have ha : (isAgg fd.type).run P w = .ok true w := by unfold isAgg; rw [Sem.run_bind, run_underlying hd w]; cases d <;> first | rfl | (exact absurd hr (by simp [TypeDesc.isRow]))
    have hsz : (sizeOf fd.type).run P w = .ok i.size w := by simp [sizeOf, typeInfo, hi]
    simp [Instr.field, run_underlying hu, Sem.run_bind, hf, asAgg, part, ha, hsz]
def arrZB (P : Program) (T len k : Nat) : Option (List Value) := match P.info? T, P.underlying T with
  | some it, some (.array m E) => match it.zero, P.info? E with
    | some z, some i => if m == len && i.size == k then some z.cells.toList else none
    | _, _ => none
  | _, _ => none
theorem op_buildArr {T len k : Nat} {parts : Array (Nat × Operand)} {z cs : List Value} {vs : List (Nat × Value)} (ht : arrZB P T len k = some z) (hx : evp e parts.toList = some vs) (h : fillS ((List.range len).map fun i => (i * k, k)) z vs = some cs) :
    OpT P σ n F ⟨dst, .build T parts, ty, pos, after, guard⟩ e [] (Det (.agg cs.toArray)) :=
  opt_run fun a w hr _ => by
    have hparts : (parts.map fun (i, x) => (i, a.eval x)).toList = vs := by simpa using hr.evp hx
    have hb : P.built T vs = some cs.toArray := by
      unfold arrZB at ht
      split at ht
      · rename_i it m E hi hu
        split at ht
        · rename_i z0 inf hz hm
          split at ht
          · rename_i hc
            simp only [Bool.and_eq_true, beq_iff_eq] at hc
            obtain ⟨rfl, rfl⟩ := hc
            simp at ht; subst ht
            unfold Program.built
            simp only [hi, hu, hz, hm]
            have := fill_of (place := fun j => some (j * inf.size, inf.size)) (fun j p hp => by
              rw [List.getElem?_map] at hp
              rcases hj : (List.range m)[j]? with _ | q
              · rw [hj] at hp; simp at hp
              · rw [hj] at hp
                have := List.getElem?_eq_some_iff.1 hj
                simp at this hp
                rw [← hp, this.2]) h
            simpa using this
          · simp at ht
        · simp at ht
      · simp at ht
    simp only [execOp, Sem.run_bind]
    rw [run_build w T _ cs.toArray (by rw [hparts]; exact hb)]
    rfl
end
end Go.SL
