/- Contracts of bitmap.Not, Add, Shift, FromRuns and of the reference's CheckRuns (layer 5). Conditions: none. -/
import Derived.Test.YtkknlfhncheflaaB11
namespace Go.Proofs.Ytkknlfhncheflaa
open Go Go.SL Go.RowKit Go.BitM
set_option linter.unusedVariables false
set_option linter.unusedSimpArgs false
theorem tA26l : aggB Try.prog 26 1 = true := by kernel_rfl
theorem tB26l : placesB Try.prog 26 = some ([(0, 1)], [Value.slice none 0 0]) := by kernel_rfl
theorem tL22_1l : zerosB Try.prog 22 3 1 1 = some [Value.int .i64 0] := by kernel_rfl
theorem tN26l : (Try.prog.info? 26).bind (·.zero) = some (Value.agg #[Value.slice none 0 0]) := by kernel_rfl
theorem tZ26l : (Try.prog.info? 26).map (·.size) = some 1 := by kernel_rfl

/-- A set's value of these rows, its runs in a block of its own. -/
def SetV (p : Int → Prop) (lab : Nat) (u : Value) (ρ : RL) : Prop := ∃ m a c, WF m ∧ inB 0 1048575 m ∧ (∀ n, mem m n ↔ p n) ∧ u = bm a m.length c ∧ ρ = [(lab, slW 58 encRun 2 (.slice a m.length c) m)]
/-- .. with an error. -/
def SetE (p : Int → Prop) (e : Int) (lab : Nat) (u : Value) (ρ : RL) : Prop := ∃ m a c, WF m ∧ inB 0 1048575 m ∧ (∀ n, mem m n ↔ p n) ∧ u = .tuple #[bm a m.length c, .int .i64 e] ∧ ρ = [(lab, slW 58 encRun 2 (.slice a m.length c) m)]
theorem SetE.of_be {lab : Nat} {r : Except Int (List Run)} {p : Int → Prop} {e : Int} {P : Program} {σ : World} {F : List Res} {f : Nat} {args : List Value} {R : RL} (h : FnT P σ F f args R (BE lab r))
    (h1 : ∀ l, r = .ok l → WF l ∧ inB 0 1048575 l ∧ (∀ n, mem l n ↔ p n) ∧ e = 0) (h2 : ∀ e', r = .error e' → (∀ n, ¬ p n) ∧ e = e') : FnT P σ F f args R (SetE p e lab) :=
  fn_mono h fun u ρ w hu ho => by
    cases r with
    | ok l =>
      obtain ⟨a, c, rfl, rfl⟩ := hu
      obtain ⟨a1, a2, a3, rfl⟩ := h1 l rfl
      exact ⟨_, ⟨l, a, c, a1, a2, a3, rfl, rfl⟩, ho⟩
    | error e' =>
      obtain ⟨rfl, rfl⟩ := hu
      obtain ⟨a1, rfl⟩ := h2 e' rfl
      exact ⟨[(lab, slW 58 encRun 2 (.slice none 0 0) [])], ⟨[], none, 0, WF.nil, (by simp [inB]), fun n => ⟨fun h => absurd h (mem_nil n), fun h => absurd h (a1 n)⟩, rfl, rfl⟩, ho.emp (slO_nil 58 2)⟩
theorem SetV.of_bc {lab : Nat} {keep : Bool → Bool → Bool} {a b : List Run} {p : Int → Prop} {u : Value} {ρ : RL} (h : BC keep a b lab u ρ) (hp : ∀ n, keep (memB a n) (memB b n) = true ↔ p n) : SetV p lab u ρ := by
  obtain ⟨rl, a', c', h1, h2, h3, rfl, rfl⟩ := h
  exact ⟨rl, a', c', h1, h2, fun n => (h3 n).trans (hp n), rfl, rfl⟩
section
variable {σ : World} {F : List Res} {p q : Option Addr} {c d : Nat} {a b : List Run} (lab : Nat) (ha : Sl σ F encRun 2 (.slice p a.length c) a) (hb : Sl σ F encRun 2 (.slice q b.length d) b) (hwa : WF a) (hwb : WF b) (hia : inB 0 1048575 a) (hib : inB 0 1048575 b)
include ha hb hwa hwb hia hib
theorem and_s : FnT Try.prog σ F 31 [bm p a.length c, bm q b.length d] [] (SetV (fun n => mem a n ∧ mem b n) lab) :=
  fn_imp (band_any lab ha hb hwa hwb hia hib) fun u ρ h => SetV.of_bc h fun n => by simp only [Bool.and_eq_true, memB_iff]
theorem or_s : FnT Try.prog σ F 32 [bm p a.length c, bm q b.length d] [] (SetV (fun n => mem a n ∨ mem b n) lab) :=
  fn_imp (bor_any lab ha hb hwa hwb hia hib) fun u ρ h => SetV.of_bc h fun n => by simp only [Bool.or_eq_true, memB_iff]
theorem andnot_s : FnT Try.prog σ F 33 [bm p a.length c, bm q b.length d] [] (SetV (fun n => mem a n ∧ ¬ mem b n) lab) :=
  fn_imp (bandnot_any lab ha hb hwa hwb hia hib) fun u ρ h => SetV.of_bc h fun n => by simp only [Bool.and_eq_true, memB_iff, Bool.not_eq_true', memB_false]
end
theorem of_s {σ : World} {F : List Res} {a : Option Addr} {c : Nat} {l : List Int} (lab : Nat) (h : Sl σ F encZ 1 (.slice a l.length c) l) (hl : l.length ≤ 1099511627776) :
    FnT Try.prog σ F 14 [.slice a l.length c] [] (SetE (fun n => validB l = true ∧ n ∈ l) (if validB l then 0 else 2) lab) := by
  refine SetE.of_be (of_any lab h hl) (fun m hm => ?_) (fun e he => ?_)
  · split at hm
    · rename_i hv
      simp only [Except.ok.injEq] at hm; subst hm
      obtain ⟨h1, h2, _⟩ := toRuns_ok _ rfl (srt_le l)
      refine ⟨h1, toRuns_in (srt_le l) fun x hx => ?_, fun n => by rw [h2, mem_srt]; simp [hv], by rw [if_pos hv]⟩
      have := (List.all_eq_true.1 hv) x (mem_srt.1 hx)
      simp at this; omega
    · simp at hm
  · split at he
    · simp at he
    · rename_i hv
      simp only [Except.error.injEq] at he
      exact ⟨fun n hn => hv hn.1, by rw [if_neg hv]; exact he⟩
theorem range_s {σ : World} {F : List Res} (lab : Nat) (x y : Int) :
    FnT Try.prog σ F 18 [.int .i64 x, .int .i64 y] [] (SetE (fun n => (0 ≤ x ∧ x ≤ 1048576 ∧ 0 ≤ y ∧ y ≤ 1048576) ∧ x ≤ n ∧ n < y) (if 0 ≤ x ∧ x ≤ 1048576 ∧ 0 ≤ y ∧ y ≤ 1048576 then 0 else 2) lab) := by
  refine SetE.of_be (range_any lab x y) (fun m hm => ?_) (fun e he => ?_)
  · split at hm
    · simp at hm
    · rename_i h1
      have h1' : 0 ≤ x ∧ x ≤ 1048576 ∧ 0 ≤ y ∧ y ≤ 1048576 := by omega
      split at hm
      · simp only [Except.ok.injEq] at hm; subst hm
        exact ⟨WF.nil, by simp [inB], fun n => ⟨fun h => absurd h (mem_nil n), fun h => by omega⟩, by rw [if_pos h1']⟩
      · simp only [Except.ok.injEq] at hm; subst hm
        refine ⟨WF.upto (by omega), fun r hr => by simp at hr; subst hr; simp only; omega, fun n => ?_, by rw [if_pos h1']⟩
        simp only [mem_cons, mem_nil, or_false]; omega
  · split at he
    · rename_i h1
      simp only [Except.error.injEq] at he
      rw [if_neg (by omega)]
      exact ⟨fun n hn => by omega, he⟩
    · split at he <;> simp at he
theorem inB_nil : inB 0 1048575 [] := fun r hr => by simp at hr
set_option maxHeartbeats 400000 in
set_option maxRecDepth 100000 in
theorem not_s {σ : World} {F : List Res} {a : Option Addr} {c : Nat} {rl : List Run} (lab : Nat) (s : Int) (h : Sl σ F encRun 2 (.slice a rl.length c) rl) (hw : WF rl) (hi : inB 0 1048575 rl) :
    FnT Try.prog σ F 19 [bm a rl.length c, .int .i64 s] [] (SetE (fun n => (0 ≤ s ∧ s ≤ 1048576) ∧ (0 ≤ n ∧ n < s) ∧ ¬ mem rl n) (if 0 ≤ s ∧ s ≤ 1048576 then 0 else 2) lab) := by
  refine fn_of 20 Try.func19 rfl Try.ntmps19 rfl ?_
  refine w_seq ?_
  refine w_region ?_
  refine wl_op [] rfl rfl rfl rfl (op_box (T := 26) (l := 2) rfl) ?_
  rintro _ _ ⟨b2, rfl, rfl⟩
  refine wl_op [] rfl rfl rfl rfl (op_alloc (l := 4) tN26l) ?_
  rintro _ _ ⟨b4, rfl, rfl⟩
  refine wl_det rfl rfl rfl (op_assign rfl) ?_
  refine wl_nil ?_
  refine st_tn ?_
  refine w_seq ?_
  refine w_region ?_
  refine wl_det rfl rfl rfl (op_move rfl) ?_
  refine wl_op [] rfl rfl rfl rfl (op_fn Try.func18 rfl rfl rfl (range_s 8 0 s)) ?_
  rintro _ _ ⟨m1, a8, c8, hw1, hi1, hm1, rfl, rfl⟩
  refine wl_det rfl rfl rfl (op_move rfl) ?_
  refine wl_det rfl rfl rfl (op_extract rfl rfl) ?_
  refine wl_det rfl rfl rfl (op_extract rfl rfl) ?_
  refine wl_op [] rfl rfl rfl rfl (op_alloc (l := 6) tN26l) ?_
  rintro _ _ ⟨b6, rfl, rfl⟩
  refine wl_op0 [6] rfl rfl rfl (op_store rfl rfl tZ26l (by rfl) (by rfl) (by exact Nat.le_of_ble_eq_true rfl)) ?_
  rintro _ _ ⟨rfl, rfl⟩
  refine wl_det rfl rfl rfl (op_assign rfl) ?_
  refine wl_nil ?_
  refine st_tn ?_
  refine w_seq ?_
  refine w_seq ?_
  refine w_region ?_
  refine wl_det rfl rfl rfl (op_move rfl) ?_
  refine wl_det rfl rfl rfl (op_neq rfl rfl) ?_
  refine wl_nil ?_
  refine st_tn ?_
  refine w_cond_d rfl (fun hc14 => ?_) (fun hc14 => ?_)
  · -- c14.t
    refine w_seq ?_
    refine w_emp 99 (slO_nil 58 2) ?_
    refine w_region ?_
    refine wl_det rfl rfl rfl (op_build tB26l rfl rfl) ?_
    refine wl_det rfl rfl rfl (op_move rfl) ?_
    refine wl_op0 [4] rfl rfl rfl (op_store rfl rfl tZ26l (by rfl) (by rfl) (by exact Nat.le_of_ble_eq_true rfl)) ?_
    rintro _ _ ⟨rfl, rfl⟩
    refine wl_det rfl rfl rfl (op_assign rfl) ?_
    refine wl_nil ?_
    refine st_tn ?_
    refine w_ret ?_
    refine st_tr ?_
    refine st_ret (vs := [_, _]) [99] Try.results19 ⟨⟨_, rfl, Ent.mono (Ent.lab (l := 4) rfl (says_cel 0)) (fun _ h => run_load_agg tA26l h (Nat.le_of_ble_eq_true rfl))⟩, ⟨rfl, trivial⟩⟩ rfl ?_
    refine ⟨[(lab, _)], rfl, ?_⟩
    have hs : ¬ (0 ≤ s ∧ s ≤ 1048576) := fun hs => hc14 (if_pos (by omega))
    rw [if_neg (by omega : ¬ (0 ≤ (0 : Int) ∧ (0 : Int) ≤ 1048576 ∧ 0 ≤ s ∧ s ≤ 1048576)), if_neg hs]
    exact ⟨[], none, 0, WF.nil, inB_nil, fun n => ⟨fun h => absurd h (mem_nil n), fun h => absurd h.1 hs⟩, rfl, rfl⟩
  · -- c14.f
    refine w_skip ?_
    refine st_tn ?_
    refine w_seq ?_
    refine w_region ?_
    refine wl_det rfl rfl rfl (op_loadA rfl tA26l (Ent.lab (l := 6) rfl (says_cel 0)) (Nat.le_of_ble_eq_true rfl)) ?_
    refine wl_det rfl rfl rfl (op_loadA rfl tA26l (Ent.lab (l := 2) rfl (says_cel 0)) (Nat.le_of_ble_eq_true rfl)) ?_
    refine wl_op [] rfl rfl rfl rfl (op_fn Try.func33 rfl rfl rfl (andnot_s 19 (Sl.lab 8 rfl (by have := (wf_len hw1 hi1).2; unfold maxLen; omega)) (Sl.app h _) hw1 hw hi1 hi)) ?_
    rintro _ _ ⟨m2, a19, c19, hw2, hi2, hm2, rfl, rfl⟩
    refine wl_op0 [4] rfl rfl rfl (op_store rfl rfl tZ26l (by rfl) (by rfl) (by exact Nat.le_of_ble_eq_true rfl)) ?_
    rintro _ _ ⟨rfl, rfl⟩
    refine wl_det rfl rfl rfl (op_assign rfl) ?_
    refine wl_nil ?_
    refine st_tn ?_
    refine w_ret ?_
    refine st_ret (vs := [_, _]) [19] Try.results19 ⟨⟨_, rfl, Ent.mono (Ent.lab (l := 4) rfl (says_cel 0)) (fun _ h => run_load_agg tA26l h (Nat.le_of_ble_eq_true rfl))⟩, ⟨rfl, trivial⟩⟩ rfl ?_
    refine ⟨[(lab, _)], rfl, ?_⟩
    have hs : 0 ≤ s ∧ s ≤ 1048576 := Classical.byContradiction fun hs => hc14 (by rw [if_neg (by omega)]; omega)
    rw [if_pos hs]
    exact ⟨m2, _, _, hw2, hi2, fun n => by simp only [hm2, hm1]; constructor; (· intro h; exact ⟨hs, by omega, h.2⟩); (· intro h; exact ⟨by omega, h.2.2⟩), rfl, rfl⟩

set_option maxHeartbeats 400000 in
set_option maxRecDepth 100000 in
theorem add_s {σ : World} {F : List Res} {a : Option Addr} {c : Nat} {rl : List Run} (lab : Nat) (x : Int) (h : Sl σ F encRun 2 (.slice a rl.length c) rl) (hw : WF rl) (hi : inB 0 1048575 rl) :
    FnT Try.prog σ F 29 [bm a rl.length c, .int .i64 x] [] (SetE (fun n => (0 ≤ x ∧ x < 1048576) ∧ (mem rl n ∨ n = x)) (if 0 ≤ x ∧ x < 1048576 then 0 else 2) lab) := by
  refine fn_of 21 Try.func29 rfl Try.ntmps29 rfl ?_
  have hv : validB [x] = true ↔ 0 ≤ x ∧ x < 1048576 := by unfold validB; simp
  refine w_seq ?_
  refine w_region ?_
  refine wl_op [] rfl rfl rfl rfl (op_box (T := 26) (l := 2) rfl) ?_
  rintro _ _ ⟨b2, rfl, rfl⟩
  refine wl_op [] rfl rfl rfl rfl (op_alloc (l := 4) tN26l) ?_
  rintro _ _ ⟨b4, rfl, rfl⟩
  refine wl_det rfl rfl rfl (op_assign rfl) ?_
  refine wl_nil ?_
  refine st_tn ?_
  refine w_seq ?_
  refine w_region ?_
  refine wl_det rfl rfl rfl (op_move rfl) ?_
  refine wl_op [] rfl rfl rfl rfl (op_buildSlice (enc := SL.encZ) (l := [_]) (lab := 10) tL22_1l rfl rfl (fun _ => rfl) rfl) ?_
  rintro _ _ ⟨a10, c10, rfl, rfl⟩
  refine wl_op [] rfl rfl rfl rfl (op_fn Try.func14 rfl rfl rfl (of_s (l := [x]) 8 (Sl.lab 10 rfl (by simp [maxLen])) (by simp))) ?_
  rintro _ _ ⟨m1, a8, c8, hw1, hi1, hm1, rfl, rfl⟩
  refine wl_det rfl rfl rfl (op_move rfl) ?_
  refine wl_det rfl rfl rfl (op_extract rfl rfl) ?_
  refine wl_det rfl rfl rfl (op_extract rfl rfl) ?_
  refine wl_op [] rfl rfl rfl rfl (op_alloc (l := 6) tN26l) ?_
  rintro _ _ ⟨b6, rfl, rfl⟩
  refine wl_op0 [6] rfl rfl rfl (op_store rfl rfl tZ26l (by rfl) (by rfl) (by exact Nat.le_of_ble_eq_true rfl)) ?_
  rintro _ _ ⟨rfl, rfl⟩
  refine wl_det rfl rfl rfl (op_assign rfl) ?_
  refine wl_nil ?_
  refine st_tn ?_
  refine w_seq ?_
  refine w_seq ?_
  refine w_region ?_
  refine wl_det rfl rfl rfl (op_move rfl) ?_
  refine wl_det rfl rfl rfl (op_neq rfl rfl) ?_
  refine wl_nil ?_
  refine st_tn ?_
  refine w_cond_d rfl (fun hc15 => ?_) (fun hc15 => ?_)
  · -- c15.t
    refine w_seq ?_
    refine w_emp 99 (slO_nil 58 2) ?_
    refine w_region ?_
    refine wl_det rfl rfl rfl (op_build tB26l rfl rfl) ?_
    refine wl_det rfl rfl rfl (op_move rfl) ?_
    refine wl_op0 [4] rfl rfl rfl (op_store rfl rfl tZ26l (by rfl) (by rfl) (by exact Nat.le_of_ble_eq_true rfl)) ?_
    rintro _ _ ⟨rfl, rfl⟩
    refine wl_det rfl rfl rfl (op_assign rfl) ?_
    refine wl_nil ?_
    refine st_tn ?_
    refine w_ret ?_
    refine st_tr ?_
    refine st_ret (vs := [_, _]) [99] Try.results29 ⟨⟨_, rfl, Ent.mono (Ent.lab (l := 4) rfl (says_cel 0)) (fun _ h => run_load_agg tA26l h (Nat.le_of_ble_eq_true rfl))⟩, ⟨rfl, trivial⟩⟩ rfl ?_
    refine ⟨[(lab, _)], rfl, ?_⟩
    have hs : ¬ (0 ≤ x ∧ x < 1048576) := fun hs => hc15 (if_pos (hv.2 hs))
    rw [if_neg (fun h => hs (hv.1 h)), if_neg hs]
    exact ⟨[], none, 0, WF.nil, inB_nil, fun n => ⟨fun h => absurd h (mem_nil n), fun h => absurd h.1 hs⟩, rfl, rfl⟩
  · -- c15.f
    refine w_skip ?_
    refine st_tn ?_
    refine w_seq ?_
    refine w_region ?_
    refine wl_det rfl rfl rfl (op_loadA rfl tA26l (Ent.lab (l := 2) rfl (says_cel 0)) (Nat.le_of_ble_eq_true rfl)) ?_
    refine wl_det rfl rfl rfl (op_loadA rfl tA26l (Ent.lab (l := 6) rfl (says_cel 0)) (Nat.le_of_ble_eq_true rfl)) ?_
    refine wl_op [] rfl rfl rfl rfl (op_fn Try.func32 rfl rfl rfl (or_s 20 (Sl.app h _) (Sl.lab 8 rfl (by have := (wf_len hw1 hi1).2; unfold maxLen; omega)) hw hw1 hi hi1)) ?_
    rintro _ _ ⟨m2, a20, c20, hw2, hi2, hm2, rfl, rfl⟩
    refine wl_op0 [4] rfl rfl rfl (op_store rfl rfl tZ26l (by rfl) (by rfl) (by exact Nat.le_of_ble_eq_true rfl)) ?_
    rintro _ _ ⟨rfl, rfl⟩
    refine wl_det rfl rfl rfl (op_assign rfl) ?_
    refine wl_nil ?_
    refine st_tn ?_
    refine w_ret ?_
    refine st_ret (vs := [_, _]) [20] Try.results29 ⟨⟨_, rfl, Ent.mono (Ent.lab (l := 4) rfl (says_cel 0)) (fun _ h => run_load_agg tA26l h (Nat.le_of_ble_eq_true rfl))⟩, ⟨rfl, trivial⟩⟩ rfl ?_
    refine ⟨[(lab, _)], rfl, ?_⟩
    have hs : 0 ≤ x ∧ x < 1048576 := Classical.byContradiction fun hs => hc15 (by rw [if_neg (fun h => hs (hv.1 h))]; omega)
    rw [if_pos hs]
    exact ⟨m2, _, _, hw2, hi2, fun n => by simp only [hm2, hm1, hv, List.mem_singleton]; constructor; (· rintro (h | h); (· exact ⟨hs, .inl h⟩); (· exact ⟨hs, .inr h.2⟩)); (· rintro ⟨_, h | h⟩; (· exact .inl h); (· exact .inr ⟨hs, h⟩)), rfl, rfl⟩

end Go.Proofs.Ytkknlfhncheflaa
