/- Contracts of the reference's functions on lists of numbers (layer 5). Conditions: none. -/
import Derived.Test.YtkknlfhncheflaaProg
import Derived.Test.YtkknlfhncheflaaSl9
import Derived.Test.YtkknlfhncheflaaSl3
namespace Go.Proofs.Ytkknlfhncheflaa
open Go Go.SL Go.RowKit
set_option linter.unusedVariables false
set_option linter.unusedSimpArgs false
theorem tMix : Try.prog.follows .mixedOrders = true := by kernel_rfl
theorem tO3 : oneB Try.prog 3 = true := by kernel_rfl
theorem tS22 : sliceB Try.prog 22 3 1 = true := by kernel_rfl

theorem take_snoc {α : Type} {l : List α} {i : Nat} {x : α} (h : l[i]? = some x) : l.take (i + 1) = l.take i ++ [x] := by rw [List.take_add_one, h]; rfl
theorem take_all {α : Type} {l : List α} {i : Nat} (h : ¬ i < l.length) : l.take i = l := List.take_of_length_le (by omega)
set_option maxHeartbeats 400000 in
set_option maxRecDepth 100000 in
theorem has_any {σ : World} {F : List Res} {v : Value} {l : List Int} (x : Int) (h : Sl σ F encZ 1 v l) :
    FnT Try.prog σ F 26 [v, .int .i64 x] [] (fun u ρ => u = .bool (decide (x ∈ l)) ∧ ρ = []) := by
  refine fn_of 18 Try.func26 rfl Try.ntmps26 rfl ?_
  have hle := h.i64
  refine w_seq ?_
  refine w_region ?_
  refine wl_det rfl rfl rfl (op_assign rfl) ?_
  refine wl_nil ?_
  refine st_tn ?_
  refine w_seq ?_
  refine w_seq ?_
  refine w_region ?_
  refine wl_det rfl rfl rfl (op_assign rfl) ?_
  refine wl_nil ?_
  refine st_tn ?_
  refine w_block ?_
  refine w_loop (X := Nat) (fun i => i ≤ l.length ∧ x ∉ l.take i) (fun i => [(0, v), (1, .int .i64 x), (5, .int .i64 i)]) (fun _ => []) (fun i => l.length - i) (0) (⟨Nat.zero_le _, by simp⟩) (.cons rfl (.cons rfl (.cons rfl (.nil _)))) ⟨[], _, _, rfl, rfl⟩ ?_
  rintro i ⟨hi, hn⟩
  refine w_seq ?_
  refine w_seq ?_
  refine w_region ?_
  refine wl_det rfl rfl rfl (op_move rfl) ?_
  refine wl_det rfl rfl rfl (op_move rfl) ?_
  refine wl_det rfl rfl rfl (op_lenT rfl tS22 (Sl.ent (by first | exact Sl.app (by assumption) _ | exact Sl.app (Sl.app (by assumption) _) _))) ?_
  refine wl_det rfl rfl rfl (op_lss rfl rfl) ?_
  refine wl_nil ?_
  refine st_tn ?_
  refine w_cond_d rfl (fun hc9 => ?_) (fun hc9 => ?_)
  · -- c9.t
    obtain ⟨y, hy⟩ := getE (l := l) (i := i) (by omega)
    have hlt := ltE hy
    refine w_skip ?_
    refine st_tn ?_
    refine w_seq ?_
    refine w_block ?_
    refine w_seq ?_
    refine w_region ?_
    refine wl_det rfl rfl rfl (op_move rfl) ?_
    refine wl_det rfl rfl rfl (op_move rfl) ?_
    refine wl_det rfl rfl rfl (op_idx rfl rfl tS22 (Sl.ent (by first | exact Sl.app (by assumption) _ | exact Sl.app (Sl.app (by assumption) _) _)) (by omega)) ?_
    refine wl_det rfl rfl rfl (op_ldx rfl tO3 (by first | exact Sl.app (by assumption) _ | exact Sl.app (Sl.app (by assumption) _) _) (by assumption) (by rfl)) ?_
    refine wl_det rfl rfl rfl (op_move rfl) ?_
    refine wl_det rfl rfl rfl (op_eql rfl rfl) ?_
    refine wl_nil ?_
    refine st_tn ?_
    refine w_cond_d rfl (fun hc17 => ?_) (fun hc17 => ?_)
    · -- c17.t
      refine w_seq ?_
      refine w_region ?_
      refine wl_det rfl rfl rfl (op_assign rfl) ?_
      refine wl_nil ?_
      refine st_tn ?_
      refine w_ret ?_
      refine st_br ?_
      refine st_tr ?_
      refine st_tr ?_
      refine st_br ?_
      refine st_tr ?_
      refine st_ret (vs := [_]) [] Try.results26 ⟨rfl, trivial⟩ rfl ?_
      refine ⟨_, rfl, ?_⟩
      refine ⟨?_, rfl⟩; subst hc17; simp [retv, List.mem_of_getElem? hy]
    · -- c17.f
      refine w_skip ?_
      refine st_bn ?_
      refine st_tn ?_
      refine w_region ?_
      refine wl_det rfl rfl rfl (op_move rfl) ?_
      refine wl_det rfl rfl rfl (op_add' rfl rfl (by omega)) ?_
      refine wl_det rfl rfl rfl (op_assign rfl) ?_
      refine wl_nil ?_
      refine st_round (x := i) (i + 1) [] (⟨by omega, by rw [take_snoc hy]; simp; exact ⟨hn, fun e => hc17 e.symm⟩⟩) (by omega) (.cons rfl (.cons rfl (.cons rfl (.nil _)))) rfl (rfl) 
  · -- c9.f
    refine w_exit ?_
    refine st_te ?_
    refine st_te ?_
    refine st_be ?_
    refine st_tn ?_
    refine w_seq ?_
    refine w_region ?_
    refine wl_det rfl rfl rfl (op_assign rfl) ?_
    refine wl_nil ?_
    refine st_tn ?_
    refine w_ret ?_
    refine st_ret (vs := [_]) [] Try.results26 ⟨rfl, trivial⟩ rfl ?_
    refine ⟨_, rfl, ?_⟩
    refine ⟨?_, rfl⟩; rw [take_all (by omega)] at hn; simp [retv, hn]

set_option maxHeartbeats 400000 in
set_option maxRecDepth 100000 in
theorem same_any {σ : World} {F : List Res} {v u : Value} {l m : List Int} (h : Sl σ F encZ 1 v l) (g : Sl σ F encZ 1 u m) :
    FnT Try.prog σ F 43 [v, u] [] (fun r ρ => r = .bool (decide (l = m)) ∧ ρ = []) := by
  refine fn_of 26 Try.func43 rfl Try.ntmps43 rfl ?_
  have hle := h.i64
  have gle := g.i64
  refine w_seq ?_
  refine w_region ?_
  refine wl_det rfl rfl rfl (op_assign rfl) ?_
  refine wl_nil ?_
  refine st_tn ?_
  refine w_seq ?_
  refine w_seq ?_
  refine w_region ?_
  refine wl_det rfl rfl rfl (op_move rfl) ?_
  refine wl_det rfl rfl rfl (op_lenT rfl tS22 (Sl.ent (by first | exact Sl.app (by assumption) _ | exact Sl.app (Sl.app (by assumption) _) _))) ?_
  refine wl_det rfl rfl rfl (op_move rfl) ?_
  refine wl_det rfl rfl rfl (op_lenT rfl tS22 (Sl.ent (by first | exact Sl.app (by assumption) _ | exact Sl.app (Sl.app (by assumption) _) _))) ?_
  refine wl_det rfl rfl rfl (op_neq rfl rfl) ?_
  refine wl_nil ?_
  refine st_tn ?_
  refine w_cond_d rfl (fun hc10 => ?_) (fun hc10 => ?_)
  · -- c10.t
    refine w_seq ?_
    refine w_region ?_
    refine wl_det rfl rfl rfl (op_assign rfl) ?_
    refine wl_nil ?_
    refine st_tn ?_
    refine w_ret ?_
    refine st_tr ?_
    refine st_ret (vs := [_]) [] Try.results43 ⟨rfl, trivial⟩ rfl ?_
    refine ⟨_, rfl, ?_⟩
    refine ⟨?_, rfl⟩; have : l ≠ m := fun e => by subst e; exact hc10 rfl
    simp [retv, this]
  · -- c10.f
    refine w_skip ?_
    refine st_tn ?_
    refine w_seq ?_
    refine w_seq ?_
    refine w_region ?_
    refine wl_det rfl rfl rfl (op_assign rfl) ?_
    refine wl_nil ?_
    refine st_tn ?_
    refine w_block ?_
    refine w_loop (X := Nat) (fun i => i ≤ l.length ∧ l.take i = m.take i) (fun i => [(0, v), (1, u), (5, .int .i64 i)]) (fun _ => []) (fun i => l.length - i) (0) (⟨Nat.zero_le _, by simp⟩) (.cons rfl (.cons rfl (.cons rfl (.nil _)))) ⟨[], _, _, rfl, rfl⟩ ?_
    rintro i ⟨hi, hn⟩
    refine w_seq ?_
    refine w_seq ?_
    refine w_region ?_
    refine wl_det rfl rfl rfl (op_move rfl) ?_
    refine wl_det rfl rfl rfl (op_move rfl) ?_
    refine wl_det rfl rfl rfl (op_lenT rfl tS22 (Sl.ent (by first | exact Sl.app (by assumption) _ | exact Sl.app (Sl.app (by assumption) _) _))) ?_
    refine wl_det rfl rfl rfl (op_lss rfl rfl) ?_
    refine wl_nil ?_
    refine st_tn ?_
    refine w_cond_d rfl (fun hc14 => ?_) (fun hc14 => ?_)
    · -- c14.t
      obtain ⟨y, hy⟩ := getE (l := l) (i := i) (by omega)
      obtain ⟨z, hz⟩ := getE (l := m) (i := i) (by omega)
      have hlt := ltE hy
      refine w_skip ?_
      refine st_tn ?_
      refine w_seq ?_
      refine w_block ?_
      refine w_seq ?_
      refine w_draw (D := [⟨17, [], [], [], _, false, [], []⟩, ⟨18, [], [], [], _, false, [], []⟩, ⟨19, [0, 1], [], [], _, false, [], []⟩, ⟨20, [2], [], [], _, false, [], []⟩, ⟨21, [], [], [], _, false, [], []⟩, ⟨22, [], [], [], _, false, [], []⟩, ⟨23, [4, 5], [], [], _, false, [], []⟩, ⟨24, [6], [], [], _, false, [], []⟩]) [] [0, 5, 1] [⟨17, [], [], false, [], []⟩, ⟨18, [], [], false, [], []⟩, ⟨19, [0, 1], [], false, [], []⟩, ⟨20, [2], [], false, [], []⟩, ⟨21, [], [], false, [], []⟩, ⟨22, [], [], false, [], []⟩, ⟨23, [4, 5], [], false, [], []⟩, ⟨24, [6], [], false, [], []⟩] tMix (by rfl) (by kernel_rfl) (by rfl) (by rfl)
          ⟨.plain rfl (by intro X; exact op_move rfl),
          ⟨.plain rfl (by intro X; exact op_move rfl),
          ⟨.plain rfl (by intro X; rintro _ _ ⟨rfl, rfl⟩ _ _ ⟨rfl, rfl⟩; exact op_idx rfl rfl tS22 (Sl.ent (by first | exact Sl.app (by assumption) _ | exact Sl.app (Sl.app (by assumption) _) _)) (by omega)),
          ⟨.plain rfl (by intro X; rintro _ _ ⟨rfl, rfl⟩; exact op_ldx rfl tO3 (by first | exact Sl.app (by assumption) _ | exact Sl.app (Sl.app (by assumption) _) _) (by assumption) (by rfl)),
          ⟨.plain rfl (by intro X; exact op_move rfl),
          ⟨.plain rfl (by intro X; exact op_move rfl),
          ⟨.plain rfl (by intro X; rintro _ _ ⟨rfl, rfl⟩ _ _ ⟨rfl, rfl⟩; exact op_idx rfl rfl tS22 (Sl.ent (by first | exact Sl.app (by assumption) _ | exact Sl.app (Sl.app (by assumption) _) _)) (by omega)),
          ⟨.plain rfl (by intro X; rintro _ _ ⟨rfl, rfl⟩; exact op_ldx rfl tO3 (by first | exact Sl.app (by assumption) _ | exact Sl.app (Sl.app (by assumption) _) _) (by assumption) (by rfl)),
          trivial⟩⟩⟩⟩⟩⟩⟩⟩ ?_
      rintro _ _ ⟨rfl, rfl⟩ _ _ ⟨rfl, rfl⟩ _ _ ⟨rfl, rfl⟩ _ _ ⟨rfl, rfl⟩ _ _ ⟨rfl, rfl⟩ _ _ ⟨rfl, rfl⟩ _ _ ⟨rfl, rfl⟩ _ _ ⟨rfl, rfl⟩
      refine wl_norm (e' := [(0, _), (1, _), (5, _), (20, _), (24, _)]) (.cons rfl (.cons rfl (.cons rfl (.cons rfl (.cons rfl (.nil _)))))) (by dsimp only [cond_false, cond_true, List.nil_append, List.cons_append]) ?_
      refine wl_det rfl rfl rfl (op_neq rfl rfl) ?_
      refine wl_nil ?_
      refine st_tn ?_
      refine w_cond_d rfl (fun hc25 => ?_) (fun hc25 => ?_)
      · -- c25.t
        refine w_seq ?_
        refine w_region ?_
        refine wl_det rfl rfl rfl (op_assign rfl) ?_
        refine wl_nil ?_
        refine st_tn ?_
        refine w_ret ?_
        refine st_br ?_
        refine st_tr ?_
        refine st_tr ?_
        refine st_br ?_
        refine st_tr ?_
        refine st_ret (vs := [_]) [] Try.results43 ⟨rfl, trivial⟩ rfl ?_
        refine ⟨_, rfl, ?_⟩
        refine ⟨?_, rfl⟩; have : l ≠ m := fun e => by subst e; rw [hy] at hz; simp at hz; exact hc25 hz
        simp [retv, this]
      · -- c25.f
        refine w_skip ?_
        refine st_bn ?_
        refine st_tn ?_
        refine w_region ?_
        refine wl_det rfl rfl rfl (op_move rfl) ?_
        refine wl_det rfl rfl rfl (op_add' rfl rfl (by omega)) ?_
        refine wl_det rfl rfl rfl (op_assign rfl) ?_
        refine wl_nil ?_
        refine st_round (x := i) (i + 1) [] (⟨by omega, by rw [take_snoc hy, take_snoc hz, hn, show y = z by omega]⟩) (by omega) (.cons rfl (.cons rfl (.cons rfl (.nil _)))) rfl (rfl) 
    · -- c14.f
      refine w_exit ?_
      refine st_te ?_
      refine st_te ?_
      refine st_be ?_
      refine st_tn ?_
      refine w_seq ?_
      refine w_region ?_
      refine wl_det rfl rfl rfl (op_assign rfl) ?_
      refine wl_nil ?_
      refine st_tn ?_
      refine w_ret ?_
      refine st_ret (vs := [_]) [] Try.results43 ⟨rfl, trivial⟩ rfl ?_
      refine ⟨_, rfl, ?_⟩
      refine ⟨?_, rfl⟩; rw [take_all (by omega), take_all (by omega)] at hn; simp [retv, hn]

end Go.Proofs.Ytkknlfhncheflaa
