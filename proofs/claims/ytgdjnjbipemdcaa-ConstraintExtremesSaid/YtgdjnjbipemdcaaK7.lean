/- Contracts: distances and solutions (layer 9). Conditions: none. -/
import Derived.Test.YtgdjnjbipemdcaaK6
import Derived.Test.YtgdjnjbipemdcaaM2
namespace Go.Proofs.Ytgdjnjbipemdcaa
open Go Go.SL Go.RowKit Go.ConM
set_option linter.unusedVariables false
set_option linter.unusedSimpArgs false
theorem tF74_0g : fieldB Try.prog 74 0 0 = true := by kernel_rfl
theorem tL26_1g : zerosB Try.prog 26 3 1 1 = some [Value.int .i64 0] := by kernel_rfl
theorem tN3g : (Try.prog.info? 3).bind (·.zero) = some (Value.int .i64 0) := by kernel_rfl
theorem tN74g : (Try.prog.info? 74).bind (·.zero) = some (Value.agg #[Value.map none, Value.map none]) := by kernel_rfl
theorem tO72g : oneB Try.prog 72 = true := by kernel_rfl
theorem tQ72g : mapB Try.prog 72 3 3 KZ.desc := ⟨Try.underlying72, Try.underlying3⟩
theorem tZ74g : (Try.prog.info? 74).map (·.size) = some 2 := by kernel_rfl

-- CALL sleuth/constraint.Implies imp_any _ _ _ {s0} (by assumption) (by assumption) (by assumption) (by assumption) (by assumption)
set_option maxHeartbeats 1000000 in
set_option maxRecDepth 100000 in
theorem dist_any {σ : World} {F : List Res} {a : Option Addr} {c : Nat} {l : List Con} (x y : Int) (h : Sl σ F encC 3 (.slice a l.length c) l) (hl : Small l) (hb : InB l) :
    FnT Try.prog σ F 22 [.slice a l.length c, .int .i64 x, .int .i64 y] [] (fun u ρ => u = .tuple #[.int .i64 (dist l x y).1, .int .i64 (dist l x y).2] ∧ ρ = []) := by
  refine fn_of 37 Try.func22 rfl Try.ntmps22 rfl ?_
  have hle := h.i64
  refine w_seq ?_
  refine w_region ?_
  refine wl_det rfl rfl rfl (op_assign rfl) ?_
  refine wl_det rfl rfl rfl (op_assign rfl) ?_
  refine wl_nil ?_
  refine st_tn ?_
  refine w_seq ?_
  refine w_seq ?_
  refine w_region ?_
  refine wl_det rfl rfl rfl (op_move rfl) ?_
  refine wl_det rfl rfl rfl (op_move rfl) ?_
  refine wl_det rfl rfl rfl (op_move rfl) ?_
  refine wl_det rfl rfl rfl (op_fn Try.func49 rfl rfl rfl (known_s _ _ (Sl.app h _) (by assumption) (by assumption))) ?_
  refine wl_det rfl rfl rfl (op_assign rfl) ?_
  refine wl_nil ?_
  refine st_tn ?_
  refine w_seq ?_
  refine w_region ?_
  refine wl_det rfl rfl rfl (op_move rfl) ?_
  refine wl_det rfl rfl rfl (op_neq rfl rfl) ?_
  refine wl_nil ?_
  refine st_tn ?_
  refine w_cond_d rfl (fun hc18 => ?_) (fun hc18 => ?_)
  · -- c18.t
    refine w_seq ?_
    refine w_region ?_
    refine wl_det rfl rfl rfl (op_move rfl) ?_
    refine wl_det rfl rfl rfl (op_assign rfl) ?_
    refine wl_det rfl rfl rfl (op_assign rfl) ?_
    refine wl_nil ?_
    refine st_tn ?_
    refine w_ret ?_
    refine st_tr ?_
    refine st_ret (vs := [_, _]) [] Try.results22 ⟨rfl, ⟨rfl, trivial⟩⟩ rfl ?_
    refine ⟨_, rfl, ?_⟩
    unfold dist; rw [if_pos hc18]; exact ⟨rfl, rfl⟩
  · -- c18.f
    refine w_skip ?_
    refine st_tn ?_
    refine w_seq ?_
    refine w_region ?_
    refine wl_det rfl rfl rfl (op_move rfl) ?_
    refine wl_det rfl rfl rfl (op_move rfl) ?_
    refine wl_op [] rfl rfl rfl rfl (op_buildSlice (enc := SL.encZ) (l := [x]) (lab := 23) tL26_1g rfl rfl (fun _ => rfl) rfl) ?_
    rintro _ _ ⟨a23, c23, rfl, rfl⟩
    refine wl_op [] rfl rfl rfl rfl (op_fn Try.func43 rfl rfl rfl (search_any (fr := [x]) 24 25 (Sl.app h _) (Sl.lab 23 rfl (by simp [maxLen])) (useAll _) hl hb (by simp))) ?_
    rintro _ _ ⟨bL24, cB24, rfl, rfl⟩
    refine wl_det rfl rfl rfl (op_move rfl) ?_
    refine wl_det rfl rfl rfl (op_extract rfl rfl) ?_
    refine wl_det rfl rfl rfl (op_extract rfl rfl) ?_
    refine wl_op [] rfl rfl rfl rfl (op_alloc (l := 9) tN74g) ?_
    rintro _ _ ⟨b9, rfl, rfl⟩
    refine wl_op0 [9] rfl rfl rfl (op_store rfl rfl tZ74g (by rfl) (by rfl) (by exact Nat.le_of_ble_eq_true rfl)) ?_
    rintro _ _ ⟨rfl, rfl⟩
    refine wl_det rfl rfl rfl (op_assign rfl) ?_
    refine wl_nil ?_
    refine st_tn ?_
    refine w_seq ?_
    by_cases hq : lookK KZ (search (fun _ => true) l [x]).1.L y = none
    · -- hq+
      refine w_region ?_
      refine wl_det rfl rfl rfl (op_fieldAddr (off := 0) rfl tF74_0g) ?_
      refine wl_det rfl rfl rfl (op_load1 rfl tO72g (Ent.lab (l := 9) rfl (says_cel 0))) ?_
      refine wl_det rfl rfl rfl (op_move rfl) ?_
      refine wl_det rfl rfl rfl (op_val (v' := .tuple #[.int .i64 0, .bool false]) (by rw [hq]; rfl) (op_lookup2 (kt := KZ) (encV := encVZ) rfl rfl tQ72g tN3g (Mr.lab 24 rfl))) ?_
      refine wl_det rfl rfl rfl (op_move rfl) ?_
      refine wl_det rfl rfl rfl (op_extract rfl rfl) ?_
      refine wl_det rfl rfl rfl (op_val (v' := .bool false) (by rfl) (op_extract rfl rfl)) ?_
      refine wl_det rfl rfl rfl (op_assign rfl) ?_
      refine wl_det rfl rfl rfl (op_assign rfl) ?_
      refine wl_nil ?_
      refine st_tn ?_
      refine w_seq ?_
      refine w_seq ?_
      refine w_region ?_
      refine wl_det rfl rfl rfl (op_move rfl) ?_
      refine wl_det rfl rfl rfl (op_not_f rfl) ?_
      refine wl_nil ?_
      refine st_tn ?_
      refine w_cond_t (rfl) ?_
      refine w_seq ?_
      refine w_region ?_
      refine wl_det rfl rfl rfl (op_assign rfl) ?_
      refine wl_det rfl rfl rfl (op_assign rfl) ?_
      refine wl_nil ?_
      refine st_tn ?_
      refine w_ret ?_
      refine st_tr ?_
      refine st_ret (vs := [_, _]) [] Try.results22 ⟨rfl, ⟨rfl, trivial⟩⟩ rfl ?_
      refine ⟨_, rfl, ?_⟩
      unfold dist; rw [if_neg hc18, hq]; exact ⟨rfl, rfl⟩
    · -- hq-
      obtain ⟨n, hn⟩ := Option.ne_none_iff_exists'.1 hq
      refine w_region ?_
      refine wl_det rfl rfl rfl (op_fieldAddr (off := 0) rfl tF74_0g) ?_
      refine wl_det rfl rfl rfl (op_load1 rfl tO72g (Ent.lab (l := 9) rfl (says_cel 0))) ?_
      refine wl_det rfl rfl rfl (op_move rfl) ?_
      refine wl_det rfl rfl rfl (op_val (v' := .tuple #[.int .i64 n, .bool true]) (by rw [hn]; rfl) (op_lookup2 (kt := KZ) (encV := encVZ) rfl rfl tQ72g tN3g (Mr.lab 24 rfl))) ?_
      refine wl_det rfl rfl rfl (op_move rfl) ?_
      refine wl_det rfl rfl rfl (op_extract rfl rfl) ?_
      refine wl_det rfl rfl rfl (op_val (v' := .bool true) (by rfl) (op_extract rfl rfl)) ?_
      refine wl_det rfl rfl rfl (op_assign rfl) ?_
      refine wl_det rfl rfl rfl (op_assign rfl) ?_
      refine wl_nil ?_
      refine st_tn ?_
      refine w_seq ?_
      refine w_seq ?_
      refine w_region ?_
      refine wl_det rfl rfl rfl (op_move rfl) ?_
      refine wl_det rfl rfl rfl (op_not_t rfl) ?_
      refine wl_nil ?_
      refine st_tn ?_
      refine w_cond_f (rfl) ?_
      refine w_skip ?_
      refine st_tn ?_
      refine w_seq ?_
      refine w_region ?_
      refine wl_det rfl rfl rfl (op_move rfl) ?_
      refine wl_det rfl rfl rfl (op_assign rfl) ?_
      refine wl_det rfl rfl rfl (op_assign rfl) ?_
      refine wl_nil ?_
      refine st_tn ?_
      refine w_ret ?_
      refine st_ret (vs := [_, _]) [] Try.results22 ⟨rfl, ⟨rfl, trivial⟩⟩ rfl ?_
      refine ⟨_, rfl, ?_⟩
      unfold dist; rw [if_neg hc18, hn]; exact ⟨rfl, rfl⟩

theorem asg_l {σ : World} {F : List Res} {bM : Nat} {m : ZM} (lm lab : Nat) (hk : ∀ p ∈ m, I64 p.1) (hl : m.length ≤ 1048576) :
      FnT Try.prog σ F 53 [.map (some bM)] [(lm, mp KZ encVZ bM m)] (fun u ρ => ∃ a c, u = .slice a (asg m).length c ∧ ρ = [(lab, slW 49 encO 2 (.slice a (asg m).length c) (asg m))]) :=
  fn_lab (asg_any lab hk hl) rfl fun u ρ h => ⟨ρ, h, rfl⟩
theorem keys_ok {l : List Con} {fr : List Int} {use : Nat → Bool} (hb : InB l) (hf : ∀ x ∈ fr, I64 x) : ∀ p ∈ (search use l fr).1.L, I64 p.1 := fun p hp => by
  rcases keys_search p hp with h | ⟨c, hc, h⟩
  · exact hf _ h
  · rw [h]; exact (hb c hc).2.1
theorem nodes_ok {l : List Con} (hb : InB l) : ∀ x ∈ nodes l, I64 x := fun x hx => by
  obtain ⟨c, hc, h⟩ := mem_nodes.1 hx
  have := hb c hc
  rcases h with h | h <;> rw [h]
  · exact this.1
  · exact this.2.1
def solL (l : List Con) : List (Int × Int) := if solE l = 0 then asg (search (fun _ => true) l (nodes l)).1.L else []
set_option maxHeartbeats 1000000 in
set_option maxRecDepth 100000 in
theorem solve_any {σ : World} {F : List Res} {a : Option Addr} {c : Nat} {l : List Con} (lab : Nat) (h : Sl σ F encC 3 (.slice a l.length c) l) (hl : Small l) (hb : InB l) :
    FnT Try.prog σ F 24 [.slice a l.length c] [] (fun u ρ => ∃ a c, u = .tuple #[.slice a (solL l).length c, .int .i64 (solE l)] ∧ ρ = [(lab, slW 49 encO 2 (.slice a (solL l).length c) (solL l))]) := by
  refine fn_of 18 Try.func24 rfl Try.ntmps24 rfl ?_
  have hle := h.i64
  have hl2 := hl.2
  have hnl := len_nodes l
  have hsl := len_search (use := fun _ => true) (l := l) (fr := nodes l)
  refine w_seq ?_
  refine w_region ?_
  refine wl_det rfl rfl rfl (op_assign rfl) ?_
  refine wl_det rfl rfl rfl (op_assign rfl) ?_
  refine wl_nil ?_
  refine st_tn ?_
  refine w_seq ?_
  refine w_region ?_
  refine wl_det rfl rfl rfl (op_move rfl) ?_
  refine wl_det rfl rfl rfl (op_move rfl) ?_
  refine wl_op [] rfl rfl rfl rfl (op_fn Try.func36 rfl rfl rfl (nodes_any 9 (Sl.app h _) (by assumption) (by omega))) ?_
  rintro _ _ ⟨a9, c9, rfl, rfl⟩
  refine wl_op [] rfl rfl rfl rfl (op_fn Try.func43 rfl rfl rfl (search_any (fr := nodes l) 10 11 (Sl.app h _) (Sl.lab 9 rfl (by unfold maxLen; omega)) (useAll _) hl hb (by omega))) ?_
  rintro _ _ ⟨bL10, cB10, rfl, rfl⟩
  refine wl_det rfl rfl rfl (op_move rfl) ?_
  refine wl_det rfl rfl rfl (op_extract rfl rfl) ?_
  refine wl_det rfl rfl rfl (op_extract rfl rfl) ?_
  refine wl_op [] rfl rfl rfl rfl (op_alloc (l := 4) tN74g) ?_
  rintro _ _ ⟨b4, rfl, rfl⟩
  refine wl_op0 [4] rfl rfl rfl (op_store rfl rfl tZ74g (by rfl) (by rfl) (by exact Nat.le_of_ble_eq_true rfl)) ?_
  rintro _ _ ⟨rfl, rfl⟩
  refine wl_det rfl rfl rfl (op_assign rfl) ?_
  refine wl_nil ?_
  refine st_tn ?_
  refine w_seq ?_
  refine w_seq ?_
  refine w_region ?_
  refine wl_det rfl rfl rfl (op_move rfl) ?_
  refine wl_det rfl rfl rfl (op_geq rfl rfl) ?_
  refine wl_nil ?_
  refine st_tn ?_
  refine w_cond_d rfl (fun hc14 => ?_) (fun hc14 => ?_)
  · -- c14.t
    refine w_seq ?_
    refine w_emp 77 (slO_nil 49 2) ?_
    refine w_region ?_
    refine wl_det rfl rfl rfl (op_assign rfl) ?_
    refine wl_det rfl rfl rfl (op_assign rfl) ?_
    refine wl_nil ?_
    refine st_tn ?_
    refine w_ret ?_
    refine st_tr ?_
    refine st_ret (vs := [_, _]) [77] Try.results24 ⟨rfl, ⟨rfl, trivial⟩⟩ rfl ?_
    refine ⟨[(lab, _)], rfl, ?_⟩
    have h1 : solE l = 21 := by unfold solE; rw [if_pos hc14]
    have h2 : solL l = [] := by unfold solL; rw [h1]; rfl
    rw [h1, h2]; exact ⟨none, 0, rfl, rfl⟩
  · -- c14.f
    refine w_skip ?_
    refine st_tn ?_
    refine w_seq ?_
    refine w_region ?_
    refine wl_det rfl rfl rfl (op_fieldAddr (off := 0) rfl tF74_0g) ?_
    refine wl_det rfl rfl rfl (op_load1 rfl tO72g (Ent.lab (l := 4) rfl (says_cel 0))) ?_
    refine wl_op [10] rfl rfl rfl rfl (op_fn Try.func53 rfl rfl rfl (asg_l 10 17 (keys_ok hb (nodes_ok hb)) (by omega))) ?_
    rintro _ _ ⟨a17, c17, rfl, rfl⟩
    refine wl_det rfl rfl rfl (op_assign rfl) ?_
    refine wl_det rfl rfl rfl (op_assign rfl) ?_
    refine wl_nil ?_
    refine st_tn ?_
    refine w_ret ?_
    refine st_ret (vs := [_, _]) [17] Try.results24 ⟨rfl, ⟨rfl, trivial⟩⟩ rfl ?_
    refine ⟨[(lab, _)], rfl, ?_⟩
    have h1 : solE l = 0 := by unfold solE; rw [if_neg hc14]
    have h2 : solL l = asg (search (fun _ => true) l (nodes l)).1.L := by unfold solL; rw [h1, if_pos rfl]
    rw [h1, h2]; exact ⟨_, _, rfl, rfl⟩

end Go.Proofs.Ytgdjnjbipemdcaa
