/- Shifts by a constant. Conditions: none. -/
import Derived.Test.YtecmigildpkigaaGreatSlC
import Derived.Test.YtecmigildpkigaaGreatSlF
namespace Go.SL
open Go Go.RowKit
section
variable {P : Program} {σ : World} {n : Nat} {F : List Res} {e : Env} {R : RL} {dst : Option Tmp} {ty : TypeId} {pos : String} {after : Array Edge} {guard : Option (Nat × Bool)}
theorem op_shrC {t t2 : TypeId} {x y : Operand} {k' : IntKind} {a b c : Int} (hx : ev e x = some (.int .i64 a)) (hy : ev e y = some (.int k' b)) (h0 : 0 ≤ b) (hc : (2 : Int) ^ min b.toNat 64 = c) :
    OpT P σ n F ⟨dst, .binOp .shr t x y t2, ty, pos, after, guard⟩ e [] (Det (.int .i64 (a / c))) := hc ▸ op_shr hx hy h0
theorem op_idxK {α : Type} {enc : α → List Value} {T E k : Nat} {kk : IntKind} {x y : Operand} {v : Value} {l : List α} {i : Int} (hx : ev e x = some v) (hy : ev e y = some (.int kk i)) (ht : sliceB P T E k = true)
    (h : Sl σ F enc k v l) (h0 : 0 ≤ i) (hi : i < l.length) : OpT P σ n F ⟨dst, .indexAddr T x y, ty, pos, after, guard⟩ e [] (Det (.pointer (some (idxA v i.toNat k)))) := by
  obtain ⟨m, rfl⟩ := Int.eq_ofNat_of_zero_le h0
  exact opt_run fun a w hr ho => by
    obtain ⟨inf, hu, hinf, hsz⟩ := sliceB_spec ht
    obtain ⟨_, _, hv⟩ := h.ent w ho
    have hm : m < l.length := by omega
    rcases hv with ⟨_, _, _, h0⟩ | ⟨b, o, cap, rfl, _, _⟩
    · simp at h0; subst h0; simp at hm
    · have hs2 : (sizeOf E).run P w = .ok k w := by simp [sizeOf, typeInfo, hinf, hsz]
      simp [execOp, hr.ev hx, hr.ev hy, Instr.indexAt, asIntOf, Sem.run_bind, run_underlying hu, hm, hs2, idxA]
end
end Go.SL
