/- Short names for the steps that occur most. Conditions: none. -/
import Derived.Test.YtecmigildpkigaaGreatSl3
import Derived.Test.YtecmigildpkigaaGreatSl9
namespace Go.SL
open Go Go.RowKit
set_option linter.unusedVariables false
section
variable {P : Program} {σ : World} {n : Nat} {ops : Array Oper} {Q : Exit → Act → World → Prop} {K : Act → World → Prop} {rest : List Oper} {e : Env} {R : RL} {F : List Res}
theorem zd {o : Oper} {d : Nat} {v : Value} (hg : (o.guard, o.dst, Nat.blt d n) = (none, some d, true)) (h : OpT P σ n (rs R ++ F) o e [] (Det v)) (k : WL P σ n ops Q K rest ((d, v) :: e) R F) : WL P σ n ops Q K (o :: rest) e R F :=
  wl_det (Prod.mk.inj hg).1 (Prod.mk.inj (Prod.mk.inj hg).2).1 (Prod.mk.inj (Prod.mk.inj hg).2).2 h k
theorem zm {x : Operand} {v : Value} {d : Nat} {dst : Option Nat} {ty pos after} (hg : (dst, Nat.blt d n, ev e x) = (some d, true, some v)) (k : WL P σ n ops Q K rest ((d, v) :: e) R F) : WL P σ n ops Q K (⟨dst, .move x, ty, pos, after, none⟩ :: rest) e R F :=
  wl_det rfl (Prod.mk.inj hg).1 (Prod.mk.inj (Prod.mk.inj hg).2).1 (op_move (Prod.mk.inj (Prod.mk.inj hg).2).2) k
theorem za {x : Operand} {v : Value} {d : Nat} {dst : Option Nat} {ty pos after} (hg : (dst, Nat.blt d n, ev e x) = (some d, true, some v)) (k : WL P σ n ops Q K rest ((d, v) :: e) R F) : WL P σ n ops Q K (⟨dst, .assign x, ty, pos, after, none⟩ :: rest) e R F :=
  wl_det rfl (Prod.mk.inj hg).1 (Prod.mk.inj (Prod.mk.inj hg).2).1 (op_assign (Prod.mk.inj (Prod.mk.inj hg).2).2) k
end
end Go.SL
