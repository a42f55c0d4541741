/- Contracts of the law's helper is, of Len, Rank and Select in terms of rows (layer 5). Conditions: none. -/
import Derived.Test.YtkknlfhncheflaaB15
namespace Go.Proofs.Ytkknlfhncheflaa
open Go Go.SL Go.RowKit Go.BitM
set_option linter.unusedVariables false
set_option linter.unusedSimpArgs false
theorem tA26p : aggB Try.prog 26 1 = true := by kernel_rfl
theorem tMixp : Try.prog.follows .mixedOrders = true := by kernel_rfl
theorem tS22p : sliceB Try.prog 22 3 1 = true := by kernel_rfl

theorem filter_upto (a b n : Int) : (upto a b).filter (fun x => decide (x < n)) = upto a (min b (n - 1)) := by
  refine SS.ext (SS.filter (ss_upto a b) _) (ss_upto _ _) fun x => ?_
  rw [List.mem_filter, mem_upto, mem_upto]; simp; omega
theorem rankR_eq {n : Int} : ∀ (k : Nat) {rl : List Run}, rl.length = k → (∀ r ∈ rl, r.1 ≤ r.2) → rankR rl n = (((rows rl).filter fun x => decide (x < n)).length : Int)
  | 0, rl, hk, _ => by have : rl = [] := List.eq_nil_of_length_eq_zero hk; subst this; simp [rankR, rows]
  | k + 1, rl, hk, h => by
    obtain ⟨l, r, rfl⟩ := (List.eq_nil_or_concat rl).resolve_left (fun e => by subst e; simp at hk)
    rw [List.concat_eq_append] at *
    have hr := h r (by simp)
    rw [rankR_snoc, rankR_eq k (rl := l) (by simpa using hk) (fun q hq => h q (by simp [hq])), rows_snoc, List.filter_append, filter_upto, List.length_append, length_upto]
    split <;> omega
theorem rankR_all {rl : List Run} (hw : WF rl) (hb : inB 0 1048575 rl) : rankR rl 1048576 = ((rows rl).length : Int) := by
  rw [rankR_eq _ rfl hw.1]
  congr 2
  rw [List.filter_eq_self]
  intro x hx
  obtain ⟨r, hr, h1, h2⟩ := mem_rows.1 hx
  have := hb r hr
  simp; omega
theorem upto_get {a b : Int} {k : Nat} (h : a + k ≤ b) : (upto a b)[k]? = some (a + k) := by
  unfold upto
  rw [List.getElem?_map, List.getElem?_range (by omega)]; rfl
theorem selR_eq : ∀ {rl : List Run} (k : Nat), (∀ r ∈ rl, r.1 ≤ r.2) → selR rl k = (rows rl)[k]?
  | [], k, _ => by simp [selR, rows]
  | r :: rl, k, h => by
    have hr := h r (by simp)
    have hl : (upto r.1 r.2).length = (r.2 - r.1 + 1).toNat := length_upto _ _
    unfold selR
    show _ = (upto r.1 r.2 ++ rows rl)[k]?
    split
    · rename_i hk
      rw [List.getElem?_append_right (by omega), show ((k : Int) - (r.2 - r.1 + 1)) = ((k - (upto r.1 r.2).length : Nat) : Int) by omega]
      exact selR_eq _ (fun q hq => h q (by simp [hq]))
    · rename_i hk
      rw [List.getElem?_append_left (by omega), upto_get (by omega)]
theorem len_s {σ : World} {F : List Res} {a : Option Addr} {c : Nat} {rl : List Run} (h : Sl σ F encRun 2 (.slice a rl.length c) rl) (hw : WF rl) (hi : inB 0 1048575 rl) :
    FnT Try.prog σ F 20 [bm a rl.length c] [] (fun u ρ => u = .int .i64 (rows rl).length ∧ ρ = []) :=
  fn_imp (len_any h (by have := wf_len hw hi; omega) (fun r hr => by have := hi r hr; omega)) fun u ρ ⟨h1, h2⟩ => ⟨by rw [h1, rankR_all hw hi], h2⟩
theorem rank_s {σ : World} {F : List Res} {a : Option Addr} {c : Nat} {rl : List Run} (n : Int) (h : Sl σ F encRun 2 (.slice a rl.length c) rl) (hw : WF rl) (hi : inB 0 1048575 rl) (hn : -9223372036854775808 ≤ n ∧ n ≤ 9223372036854775807) :
    FnT Try.prog σ F 27 [bm a rl.length c, .int .i64 n] [] (fun u ρ => u = .int .i64 ((rows rl).filter fun x => decide (x < n)).length ∧ ρ = []) :=
  fn_imp (rank_any n h (by have := wf_len hw hi; omega) (fun r hr => by have := hi r hr; omega) hn) fun u ρ ⟨h1, h2⟩ => ⟨by rw [h1, rankR_eq _ rfl hw.1], h2⟩
/-- The row of a rank. -/
def nth (l : List Int) (k : Int) : Option Int := if k < 0 then none else l[k.toNat]?
theorem select_s {σ : World} {F : List Res} {a : Option Addr} {c : Nat} {rl : List Run} (k : Int) (h : Sl σ F encRun 2 (.slice a rl.length c) rl) (hw : WF rl) (hi : inB 0 1048575 rl) (hk : -9223372036854775808 ≤ k ∧ k ≤ 9223372036854775807) :
    FnT Try.prog σ F 24 [bm a rl.length c, .int .i64 k] [] (fun u ρ => u = .tuple #[.int .i64 ((nth (rows rl) k).getD 0), .bool (nth (rows rl) k).isSome] ∧ ρ = []) :=
  fn_imp (select_any k h (by have := wf_len hw hi; omega) (fun r hr => by have := hi r hr; omega) hk) fun u ρ ⟨h1, h2⟩ => by
    refine ⟨?_, h2⟩
    rw [h1]
    unfold nth
    split
    · rfl
    · rename_i h0
      have := selR_eq (rl := rl) k.toNat hw.1
      rw [show ((k.toNat : Nat) : Int) = k by omega] at this
      rw [this]
      cases (rows rl)[k.toNat]? <;> rfl
theorem rows_inj {a b : List Run} (ha : WF a) (hb : WF b) (h : rows a = rows b) : a = b := by rw [← toRuns_rows ha, ← toRuns_rows hb, h]
theorem rows_bd {rl : List Run} (h : inB 0 1048575 rl) {x : Int} (hx : x ∈ rows rl) : 0 ≤ x ∧ x ≤ 1048575 := by
  obtain ⟨r, hr, h1, h2⟩ := mem_rows.1 hx
  have := h r hr
  omega
set_option maxHeartbeats 1000000 in
set_option maxRecDepth 100000 in
theorem is_any {σ : World} {F : List Res} {p q : Option Addr} {c d : Nat} {rl : List Run} {l : List Int} (h : Sl σ F encRun 2 (.slice p rl.length c) rl) (g : Sl σ F encZ 1 (.slice q l.length d) l) (hw : WF rl) (hi : inB 0 1048575 rl) (hl : l.length ≤ 1099511627776) :
    FnT Try.prog σ F 16 [bm p rl.length c, .slice q l.length d] [] (fun u ρ => u = .bool (decide (rows rl = l)) ∧ ρ = []) := by
  refine fn_of 22 Try.func16 rfl Try.ntmps16 rfl ?_
  have hlen := wf_len hw hi
  have hi' : inB 0 1048576 rl := fun r hr => by have := hi r hr; omega
  refine w_seq ?_
  refine w_region ?_
  refine wl_op [] rfl rfl rfl rfl (op_box (T := 26) (l := 2) rfl) ?_
  rintro _ _ ⟨b2, rfl, rfl⟩
  refine wl_det rfl rfl rfl (op_assign rfl) ?_
  refine wl_nil ?_
  refine st_tn ?_
  refine w_seq ?_
  refine w_cutL [(4, .bool (decide (rows rl = l)))] [] [2] rfl (fun K' hK => ?_) ?_
  · -- cut r1
    by_cases h4 : rows rl = l
    · -- h4 True
      refine w_draw (D := [⟨5, [], [], [], _, false, [], []⟩, ⟨6, [0], [], [], _, false, [], []⟩, ⟨7, [], [], [], _, false, [], []⟩, ⟨8, [1, 2], [], [], _, false, [], []⟩, ⟨9, [3], [], [], _, false, [], []⟩, ⟨10, [], [], [], _, false, [], []⟩, ⟨11, [], [], [], _, false, [], []⟩, ⟨12, [6], [], [], _, false, [], []⟩, ⟨13, [5, 7], [], [], _, false, [], []⟩, ⟨14, [4, 8], [], [], _, false, [], []⟩, ⟨15, [9], [], [], _, false, [], []⟩, ⟨16, [], [], [], _, false, [], []⟩, ⟨17, [11], [], [], _, false, [], []⟩, ⟨18, [], [], [], _, false, [], []⟩, ⟨19, [13], [], [], _, false, [], []⟩, ⟨20, [12, 14], [], [], _, false, [], []⟩, ⟨21, [10, 15], [], [], _, false, [], []⟩]) [] [2, 1] [⟨5, [], [], false, [], []⟩, ⟨6, [0], [], false, [], []⟩, ⟨7, [], [], false, [], []⟩, ⟨8, [1, 2], [], false, [], []⟩, ⟨9, [3], [], false, [], []⟩, ⟨10, [], [], false, [], []⟩, ⟨11, [], [], false, [], []⟩, ⟨12, [6], [], false, [], []⟩, ⟨13, [5, 7], [], false, [], []⟩, ⟨14, [4, 8], [], false, [], []⟩, ⟨15, [9], [], false, [], []⟩, ⟨16, [], [], false, [], []⟩, ⟨17, [11], [], false, [], []⟩, ⟨18, [], [], false, [], []⟩, ⟨19, [13], [], false, [], []⟩, ⟨20, [12, 14], [], false, [], []⟩, ⟨21, [10, 15], [], false, [], []⟩] tMixp (by rfl) (by kernel_rfl) (by rfl) (by rfl)
          ⟨.plain rfl (by intro X; exact op_loadA rfl tA26p (Ent.lab (l := 2) rfl (says_cel 0)) (Nat.le_of_ble_eq_true rfl)),
          ⟨.plain rfl (by intro X; rintro _ _ ⟨rfl, rfl⟩; exact op_fn Try.func53 rfl rfl rfl (rows_any 6 (Sl.app (Sl.app h X) _) (by omega) hi' (by omega))),
          ⟨.plain rfl (by intro X; exact op_move rfl),
          ⟨.plain rfl (by intro X; rintro _ _ ⟨a6, c6, rfl, rfl⟩ _ _ ⟨rfl, rfl⟩; exact op_fn Try.func43 rfl rfl rfl (same_any (Sl.lab 6 rfl (by unfold maxLen; omega)) (Sl.app (Sl.app g X) _))),
          ⟨.plain rfl (by intro X; rintro _ _ ⟨rfl, rfl⟩; exact op_move rfl),
          ⟨.wanted rfl rfl rfl (by rintro _ _ ⟨rfl, rfl⟩; first | rfl | (exact congrArg Value.bool (decide_eq_true (by omega))) | (exact congrArg Value.bool (decide_eq_false (by omega))) | (simp; done) | (simp; omega) | (simp [*]; done)) (by intro X; exact op_loadA rfl tA26p (Ent.lab (l := 2) rfl (says_cel 0)) (Nat.le_of_ble_eq_true rfl)),
          ⟨.wanted rfl rfl rfl (by rintro _ _ ⟨rfl, rfl⟩; first | rfl | (exact congrArg Value.bool (decide_eq_true (by omega))) | (exact congrArg Value.bool (decide_eq_false (by omega))) | (simp; done) | (simp; omega) | (simp [*]; done)) (by intro X; exact op_move rfl),
          ⟨.wanted rfl rfl rfl (by rintro _ _ ⟨rfl, rfl⟩; first | rfl | (exact congrArg Value.bool (decide_eq_true (by omega))) | (exact congrArg Value.bool (decide_eq_false (by omega))) | (simp; done) | (simp; omega) | (simp [*]; done)) (by intro X; rintro _ _ ⟨rfl, rfl⟩; exact op_fn Try.func48 rfl rfl rfl (rruns_any 12 (Sl.app (Sl.app g X) _) hl (by rw [← h4]; exact ss_rows hw) (by rw [← h4]; intro x hx; have := rows_bd hi hx; omega))),
          ⟨.wanted rfl rfl rfl (by rintro _ _ ⟨rfl, rfl⟩; first | rfl | (exact congrArg Value.bool (decide_eq_true (by omega))) | (exact congrArg Value.bool (decide_eq_false (by omega))) | (simp; done) | (simp; omega) | (simp [*]; done)) (by intro X; rintro _ _ ⟨rfl, rfl⟩ _ _ ⟨a12, c12, rfl, rfl⟩; exact op_fn Try.func21 rfl rfl rfl (fn_imp (runs_eq (Sl.app (Sl.app h X) _) (Sl.lab 12 rfl (by have := length_toRuns_le _ l rfl; unfold maxLen; omega)) (by omega)) (fun u ρ hu => (⟨by rw [hu.1, decide_eq_true (by rw [← h4, toRuns_rows hw])], hu.2⟩ : u = .bool true ∧ ρ = [])))),
          ⟨.plain rfl (by intro X; rintro _ _ ⟨rfl, rfl⟩ _ _ ⟨rfl, rfl⟩; exact op_pick_t (by first | rfl | (show some (Value.bool (decide _)) = _; rw [decide_eq_true (by omega)]) | (show some (Value.bool (decide _)) = _; rw [decide_eq_false (by omega)]) | (simp [ev, lk]; done) | (simp [ev, lk]; omega) | (simp [ev, lk, *]; done)) rfl),
          ⟨.plain rfl (by intro X; rintro _ _ ⟨rfl, rfl⟩; exact op_move rfl),
          ⟨.wanted rfl rfl rfl (by rintro _ _ ⟨rfl, rfl⟩; first | rfl | (exact congrArg Value.bool (decide_eq_true (by omega))) | (exact congrArg Value.bool (decide_eq_false (by omega))) | (simp; done) | (simp; omega) | (simp [*]; done)) (by intro X; exact op_loadA rfl tA26p (Ent.lab (l := 2) rfl (says_cel 0)) (Nat.le_of_ble_eq_true rfl)),
          ⟨.wanted rfl rfl rfl (by rintro _ _ ⟨rfl, rfl⟩; first | rfl | (exact congrArg Value.bool (decide_eq_true (by omega))) | (exact congrArg Value.bool (decide_eq_false (by omega))) | (simp; done) | (simp; omega) | (simp [*]; done)) (by intro X; rintro _ _ ⟨rfl, rfl⟩; exact op_fn Try.func20 rfl rfl rfl (len_s (Sl.app (Sl.app h X) _) hw hi)),
          ⟨.wanted rfl rfl rfl (by rintro _ _ ⟨rfl, rfl⟩; first | rfl | (exact congrArg Value.bool (decide_eq_true (by omega))) | (exact congrArg Value.bool (decide_eq_false (by omega))) | (simp; done) | (simp; omega) | (simp [*]; done)) (by intro X; exact op_move rfl),
          ⟨.wanted rfl rfl rfl (by rintro _ _ ⟨rfl, rfl⟩; first | rfl | (exact congrArg Value.bool (decide_eq_true (by omega))) | (exact congrArg Value.bool (decide_eq_false (by omega))) | (simp; done) | (simp; omega) | (simp [*]; done)) (by intro X; rintro _ _ ⟨rfl, rfl⟩; exact op_lenT rfl tS22p (Sl.ent (by first | exact Sl.app (by assumption) _ | exact Sl.app (Sl.app (by assumption) _) _))),
          ⟨.wanted rfl rfl rfl (by rintro _ _ ⟨rfl, rfl⟩; first | rfl | (exact congrArg Value.bool (decide_eq_true (by omega))) | (exact congrArg Value.bool (decide_eq_false (by omega))) | (simp; done) | (simp; omega) | (simp [*]; done)) (by intro X; rintro _ _ ⟨rfl, rfl⟩ _ _ ⟨rfl, rfl⟩; exact op_eql rfl rfl),
          ⟨.plain rfl (by intro X; rintro _ _ ⟨rfl, rfl⟩ _ _ ⟨rfl, rfl⟩; exact op_pick_t (by first | rfl | (show some (Value.bool (decide _)) = _; rw [decide_eq_true (by omega)]) | (show some (Value.bool (decide _)) = _; rw [decide_eq_false (by omega)]) | (simp [ev, lk]; done) | (simp [ev, lk]; omega) | (simp [ev, lk, *]; done)) rfl),
          trivial⟩⟩⟩⟩⟩⟩⟩⟩⟩⟩⟩⟩⟩⟩⟩⟩⟩ ?_
      rintro _ _ ⟨rfl, rfl⟩ _ _ ⟨a6, c6, rfl, rfl⟩ _ _ ⟨rfl, rfl⟩ _ _ ⟨rfl, rfl⟩ _ _ ⟨rfl, rfl⟩ _ _ ⟨rfl, rfl⟩ _ _ ⟨rfl, rfl⟩ _ _ ⟨a12, c12, rfl, rfl⟩ _ _ ⟨rfl, rfl⟩ _ _ ⟨rfl, rfl⟩ _ _ ⟨rfl, rfl⟩ _ _ ⟨rfl, rfl⟩ _ _ ⟨rfl, rfl⟩ _ _ ⟨rfl, rfl⟩ _ _ ⟨rfl, rfl⟩ _ _ ⟨rfl, rfl⟩ _ _ ⟨rfl, rfl⟩
      refine wl_norm (e' := [(21, _)]) (.cons rfl (.nil _)) (by dsimp only [cond_false, cond_true, List.nil_append, List.cons_append]) ?_
      refine wl_det rfl rfl rfl (op_assign rfl) ?_
      refine wl_nil ?_
      refine st_tn ?_
      exact cut_done1 [2] hK rfl (by first | (rw [decide_eq_decide]; omega) | (symm; rw [decide_eq_false_iff_not]; omega) | (symm; rw [decide_eq_true_iff]; omega) | (simp; done) | (simp; omega) | (simp [*]; done) | (simp [*]; omega)) (by rfl) rfl rfl
    · -- h4 False
      refine w_draw (D := [⟨5, [], [], [], _, false, [], []⟩, ⟨6, [0], [], [], _, false, [], []⟩, ⟨7, [], [], [], _, false, [], []⟩, ⟨8, [1, 2], [], [], _, false, [], []⟩, ⟨9, [3], [], [], _, false, [], []⟩, ⟨10, [], [], [], Det undef, false, [], []⟩, ⟨11, [], [], [], Det undef, false, [], []⟩, ⟨12, [], [], [], Det undef, false, [], []⟩, ⟨13, [], [], [], Det undef, false, [], []⟩, ⟨14, [4, 8], [], [], _, false, [], []⟩, ⟨15, [9], [], [], _, false, [], []⟩, ⟨16, [], [], [], Det undef, false, [], []⟩, ⟨17, [], [], [], Det undef, false, [], []⟩, ⟨18, [], [], [], Det undef, false, [], []⟩, ⟨19, [], [], [], Det undef, false, [], []⟩, ⟨20, [], [], [], Det undef, false, [], []⟩, ⟨21, [10, 15], [], [], _, false, [], []⟩]) [] [2, 1] [⟨5, [], [], false, [], []⟩, ⟨6, [0], [], false, [], []⟩, ⟨7, [], [], false, [], []⟩, ⟨8, [1, 2], [], false, [], []⟩, ⟨9, [3], [], false, [], []⟩, ⟨10, [], [], false, [], []⟩, ⟨11, [], [], false, [], []⟩, ⟨12, [], [], false, [], []⟩, ⟨13, [], [], false, [], []⟩, ⟨14, [4, 8], [], false, [], []⟩, ⟨15, [9], [], false, [], []⟩, ⟨16, [], [], false, [], []⟩, ⟨17, [], [], false, [], []⟩, ⟨18, [], [], false, [], []⟩, ⟨19, [], [], false, [], []⟩, ⟨20, [], [], false, [], []⟩, ⟨21, [10, 15], [], false, [], []⟩] tMixp (by rfl) (by kernel_rfl) (by rfl) (by rfl)
          ⟨.plain rfl (by intro X; exact op_loadA rfl tA26p (Ent.lab (l := 2) rfl (says_cel 0)) (Nat.le_of_ble_eq_true rfl)),
          ⟨.plain rfl (by intro X; rintro _ _ ⟨rfl, rfl⟩; exact op_fn Try.func53 rfl rfl rfl (rows_any 6 (Sl.app (Sl.app h X) _) (by omega) hi' (by omega))),
          ⟨.plain rfl (by intro X; exact op_move rfl),
          ⟨.plain rfl (by intro X; rintro _ _ ⟨a6, c6, rfl, rfl⟩ _ _ ⟨rfl, rfl⟩; exact op_fn Try.func43 rfl rfl rfl (same_any (Sl.lab 6 rfl (by unfold maxLen; omega)) (Sl.app (Sl.app g X) _))),
          ⟨.plain rfl (by intro X; rintro _ _ ⟨rfl, rfl⟩; exact op_move rfl),
          ⟨.unwanted rfl rfl rfl (by rintro _ _ ⟨rfl, rfl⟩; exact congrArg (offB true) (by first | rfl | (exact congrArg Value.bool (decide_eq_true (by omega))) | (exact congrArg Value.bool (decide_eq_false (by omega))) | (simp; done) | (simp; omega) | (simp [*]; done) : _ = Value.bool false)) ⟨rfl, rfl⟩ rfl rfl,
          ⟨.unwanted rfl rfl rfl (by rintro _ _ ⟨rfl, rfl⟩; exact congrArg (offB true) (by first | rfl | (exact congrArg Value.bool (decide_eq_true (by omega))) | (exact congrArg Value.bool (decide_eq_false (by omega))) | (simp; done) | (simp; omega) | (simp [*]; done) : _ = Value.bool false)) ⟨rfl, rfl⟩ rfl rfl,
          ⟨.unwanted rfl rfl rfl (by rintro _ _ ⟨rfl, rfl⟩; exact congrArg (offB true) (by first | rfl | (exact congrArg Value.bool (decide_eq_true (by omega))) | (exact congrArg Value.bool (decide_eq_false (by omega))) | (simp; done) | (simp; omega) | (simp [*]; done) : _ = Value.bool false)) ⟨rfl, rfl⟩ rfl rfl,
          ⟨.unwanted rfl rfl rfl (by rintro _ _ ⟨rfl, rfl⟩; exact congrArg (offB true) (by first | rfl | (exact congrArg Value.bool (decide_eq_true (by omega))) | (exact congrArg Value.bool (decide_eq_false (by omega))) | (simp; done) | (simp; omega) | (simp [*]; done) : _ = Value.bool false)) ⟨rfl, rfl⟩ rfl rfl,
          ⟨.plain rfl (by intro X; rintro _ _ ⟨rfl, rfl⟩ _ _ ⟨rfl, rfl⟩; exact op_pick_f (by first | rfl | (show some (Value.bool (decide _)) = _; rw [decide_eq_true (by omega)]) | (show some (Value.bool (decide _)) = _; rw [decide_eq_false (by omega)]) | (simp [ev, lk]; done) | (simp [ev, lk]; omega) | (simp [ev, lk, *]; done)) rfl),
          ⟨.plain rfl (by intro X; rintro _ _ ⟨rfl, rfl⟩; exact op_move rfl),
          ⟨.unwanted rfl rfl rfl (by rintro _ _ ⟨rfl, rfl⟩; exact congrArg (offB true) (by first | rfl | (exact congrArg Value.bool (decide_eq_true (by omega))) | (exact congrArg Value.bool (decide_eq_false (by omega))) | (simp; done) | (simp; omega) | (simp [*]; done) : _ = Value.bool false)) ⟨rfl, rfl⟩ rfl rfl,
          ⟨.unwanted rfl rfl rfl (by rintro _ _ ⟨rfl, rfl⟩; exact congrArg (offB true) (by first | rfl | (exact congrArg Value.bool (decide_eq_true (by omega))) | (exact congrArg Value.bool (decide_eq_false (by omega))) | (simp; done) | (simp; omega) | (simp [*]; done) : _ = Value.bool false)) ⟨rfl, rfl⟩ rfl rfl,
          ⟨.unwanted rfl rfl rfl (by rintro _ _ ⟨rfl, rfl⟩; exact congrArg (offB true) (by first | rfl | (exact congrArg Value.bool (decide_eq_true (by omega))) | (exact congrArg Value.bool (decide_eq_false (by omega))) | (simp; done) | (simp; omega) | (simp [*]; done) : _ = Value.bool false)) ⟨rfl, rfl⟩ rfl rfl,
          ⟨.unwanted rfl rfl rfl (by rintro _ _ ⟨rfl, rfl⟩; exact congrArg (offB true) (by first | rfl | (exact congrArg Value.bool (decide_eq_true (by omega))) | (exact congrArg Value.bool (decide_eq_false (by omega))) | (simp; done) | (simp; omega) | (simp [*]; done) : _ = Value.bool false)) ⟨rfl, rfl⟩ rfl rfl,
          ⟨.unwanted rfl rfl rfl (by rintro _ _ ⟨rfl, rfl⟩; exact congrArg (offB true) (by first | rfl | (exact congrArg Value.bool (decide_eq_true (by omega))) | (exact congrArg Value.bool (decide_eq_false (by omega))) | (simp; done) | (simp; omega) | (simp [*]; done) : _ = Value.bool false)) ⟨rfl, rfl⟩ rfl rfl,
          ⟨.plain rfl (by intro X; rintro _ _ ⟨rfl, rfl⟩ _ _ ⟨rfl, rfl⟩; exact op_pick_f (by first | rfl | (show some (Value.bool (decide _)) = _; rw [decide_eq_true (by omega)]) | (show some (Value.bool (decide _)) = _; rw [decide_eq_false (by omega)]) | (simp [ev, lk]; done) | (simp [ev, lk]; omega) | (simp [ev, lk, *]; done)) rfl),
          trivial⟩⟩⟩⟩⟩⟩⟩⟩⟩⟩⟩⟩⟩⟩⟩⟩⟩ ?_
      rintro _ _ ⟨rfl, rfl⟩ _ _ ⟨a6, c6, rfl, rfl⟩ _ _ ⟨rfl, rfl⟩ _ _ ⟨rfl, rfl⟩ _ _ ⟨rfl, rfl⟩ _ _ ⟨rfl, rfl⟩ _ _ ⟨rfl, rfl⟩ _ _ ⟨rfl, rfl⟩ _ _ ⟨rfl, rfl⟩ _ _ ⟨rfl, rfl⟩ _ _ ⟨rfl, rfl⟩ _ _ ⟨rfl, rfl⟩ _ _ ⟨rfl, rfl⟩ _ _ ⟨rfl, rfl⟩ _ _ ⟨rfl, rfl⟩ _ _ ⟨rfl, rfl⟩ _ _ ⟨rfl, rfl⟩
      refine wl_norm (e' := [(21, _)]) (.cons rfl (.nil _)) (by dsimp only [cond_false, cond_true, List.nil_append, List.cons_append]) ?_
      refine wl_det rfl rfl rfl (op_assign rfl) ?_
      refine wl_nil ?_
      refine st_tn ?_
      exact cut_done1 [2] hK rfl (by first | (rw [decide_eq_decide]; omega) | (symm; rw [decide_eq_false_iff_not]; omega) | (symm; rw [decide_eq_true_iff]; omega) | (simp; done) | (simp; omega) | (simp [*]; done) | (simp [*]; omega)) (by rfl) rfl rfl
  · -- behind r1
    show W _ _ _ _ _ [(4, _)] [(2, _)] _
    refine w_ret ?_
    refine st_ret (vs := [_]) [] Try.results16 ⟨rfl, trivial⟩ rfl ?_
    refine ⟨_, rfl, ?_⟩
    exact ⟨rfl, rfl⟩

end Go.Proofs.Ytkknlfhncheflaa
