/- Contracts of the package bitmap: runs, rows, ranks. Conditions: none. -/
import Derived.Test.YtkknlfhncheflaaB2
namespace Go.Proofs.Ytkknlfhncheflaa
open Go Go.SL Go.RowKit Go.BitM
set_option linter.unusedVariables false
set_option linter.unusedSimpArgs false
theorem tA26c : aggB Try.prog 26 1 = true := by kernel_rfl
theorem tA58c : aggB Try.prog 58 2 = true := by kernel_rfl
theorem tF26_0c : fieldB Try.prog 26 0 0 = true := by kernel_rfl
theorem tF58_0c : fieldB Try.prog 58 0 0 = true := by kernel_rfl
theorem tF58_1c : fieldB Try.prog 58 1 1 = true := by kernel_rfl
theorem tN58c : (Try.prog.info? 58).bind (·.zero) = some (Value.agg #[Value.int .i64 0, Value.int .i64 0]) := by kernel_rfl
theorem tO24c : oneB Try.prog 24 = true := by kernel_rfl
theorem tO3c : oneB Try.prog 3 = true := by kernel_rfl
theorem tP24c : appB Try.prog 24 58 2 16 = true := by kernel_rfl
theorem tS24c : sliceB Try.prog 24 58 2 = true := by kernel_rfl
theorem tZ58c : (Try.prog.info? 58).map (·.size) = some 2 := by kernel_rfl

theorem Sl.nil_of {σ : World} {F : List Res} {α : Type} {enc : α → List Value} {k m c : Nat} {l : List α} (h : Sl σ F enc k (.slice none m c) l) : Ent σ F (fun _ => l = []) := h.shape.mono fun _ h => h.2.1 rfl
set_option maxHeartbeats 400000 in
set_option maxRecDepth 100000 in
theorem cloneR {σ : World} {F : List Res} {a : Option Addr} {c : Nat} {rl : List Run} (lab : Nat) (h : Sl σ F encRun 2 (.slice a rl.length c) rl) (hl : rl.length ≤ 1099511627776) :
    FnT Try.prog σ F 61 [.slice a rl.length c] [] (fun u ρ => ∃ a' c', u = .slice a' rl.length c' ∧ ρ = [(lab, slW 58 encRun 2 u rl)]) := by
  refine fn_of 8 Try.func61 rfl Try.ntmps61 rfl ?_
  have hle := h.i64
  refine w_seq ?_
  refine w_region ?_
  refine wl_det rfl rfl rfl (op_assign rfl) ?_
  refine wl_nil ?_
  refine st_tn ?_
  refine w_seq ?_
  refine w_seq ?_
  refine w_region ?_
  refine wl_det rfl rfl rfl (op_move rfl) ?_
  refine wl_det rfl rfl rfl (op_eqNil rfl tS24c) ?_
  refine wl_nil ?_
  refine st_tn ?_
  refine w_cond rfl (fun hc4 => ?_) (fun hc4 => ?_)
  · -- c4.t
    obtain rfl : a = none := by simpa using hc4
    refine w_fact (Ent.app (Sl.nil_of h) _) (fun hnil => ?_)
    subst hnil
    refine w_emp 7 (slO_nil 58 2) ?_
    refine w_seq ?_
    refine w_region ?_
    refine wl_det rfl rfl rfl (op_assign rfl) ?_
    refine wl_nil ?_
    refine st_tn ?_
    refine w_ret ?_
    refine st_tr ?_
    refine st_ret (vs := [_]) [7] Try.results61 ⟨rfl, trivial⟩ rfl ?_
    refine ⟨[(lab, _)], rfl, ?_⟩
    exact ⟨none, 0, rfl, rfl⟩
  · -- c4.f
    refine w_skip ?_
    refine st_tn ?_
    refine w_seq ?_
    refine w_region ?_
    refine wl_op [] rfl rfl rfl rfl (op_lit0 (enc := encRun) (lab := 5) tS24c) ?_
    rintro _ _ ⟨a5, c5, rfl, rfl⟩
    refine wl_det rfl rfl rfl (op_move rfl) ?_
    refine wl_op [5] rfl rfl rfl rfl (op_append (lab := 5) (lab' := 7) rfl rfl tP24c enc1Run (by first | exact Sl.app (by assumption) _ | exact Sl.app (Sl.app (by assumption) _) _) (by first | omega | (simp; done) | (simp; omega) | (simp [*]; omega)) (by first | omega | (simp; done) | (simp; omega) | (simp [*]; omega))) ?_
    rintro _ _ ⟨a7, c7, rfl, rfl⟩
    refine wl_det rfl rfl rfl (op_assign rfl) ?_
    refine wl_nil ?_
    refine st_tn ?_
    refine w_ret ?_
    refine st_ret (vs := [_]) [7] Try.results61 ⟨rfl, trivial⟩ rfl ?_
    refine ⟨[(lab, _)], rfl, ?_⟩
    exact ⟨a7, c7, rfl, rfl⟩

set_option maxHeartbeats 400000 in
set_option maxRecDepth 100000 in
theorem runs_any {σ : World} {F : List Res} {a : Option Addr} {c : Nat} {rl : List Run} (lab : Nat) (h : Sl σ F encRun 2 (.slice a rl.length c) rl) (hl : rl.length ≤ 1099511627776) :
    FnT Try.prog σ F 37 [bm a rl.length c] [] (fun u ρ => ∃ a' c', u = .slice a' rl.length c' ∧ ρ = [(lab, slW 58 encRun 2 u rl)]) := by
  refine fn_of 6 Try.func37 rfl Try.ntmps37 rfl ?_
  refine w_seq ?_
  refine w_region ?_
  refine wl_op [] rfl rfl rfl rfl (op_box (T := 26) (l := 1) rfl) ?_
  rintro _ _ ⟨b1, rfl, rfl⟩
  refine wl_det rfl rfl rfl (op_assign rfl) ?_
  refine wl_nil ?_
  refine st_tn ?_
  refine w_seq ?_
  refine w_region ?_
  refine wl_det rfl rfl rfl (op_fieldAddr (off := 0) rfl tF26_0c) ?_
  refine wl_det rfl rfl rfl (op_load1 rfl tO24c (Ent.lab (l := 1) rfl (says_cel 0))) ?_
  refine wl_op [] rfl rfl rfl rfl (op_fn Try.func61 rfl rfl rfl (cloneR 5 (by first | exact Sl.app (by assumption) _ | exact Sl.app (Sl.app (by assumption) _) _) (by assumption))) ?_
  rintro _ _ ⟨a5, c5, rfl, rfl⟩
  refine wl_det rfl rfl rfl (op_assign rfl) ?_
  refine wl_nil ?_
  refine st_tn ?_
  refine w_ret ?_
  refine st_ret (vs := [_]) [5] Try.results37 ⟨rfl, trivial⟩ rfl ?_
  refine ⟨[(lab, _)], rfl, ?_⟩
  exact ⟨a5, c5, rfl, rfl⟩

/-- How many rows are less than n. -/
def rankR (rl : List Run) (n : Int) : Int := rl.foldl (fun s r => if r.1 < n then s + (min r.2 (n - 1) - r.1 + 1) else s) 0
theorem rankR_snoc (rl : List Run) (r : Run) (n : Int) : rankR (rl ++ [r]) n = if r.1 < n then rankR rl n + (min r.2 (n - 1) - r.1 + 1) else rankR rl n := by simp [rankR]
/-- The runs lie between these bounds. -/
def inB (lo hi : Int) (rl : List Run) : Prop := ∀ r ∈ rl, lo ≤ r.1 ∧ r.1 ≤ r.2 ∧ r.2 ≤ hi
theorem rankR_bd {lo hi n : Int} (hlo : lo ≤ hi) : ∀ (k : Nat) {rl : List Run}, rl.length = k → inB lo hi rl → 0 ≤ rankR rl n ∧ rankR rl n ≤ k * (hi - lo + 1)
  | 0, rl, hk, _ => by have : rl = [] := List.eq_nil_of_length_eq_zero hk; subst this; simp [rankR]
  | k + 1, rl, hk, h => by
    rcases List.eq_nil_or_concat rl with rfl | ⟨l, r, rfl⟩
    · simp at hk
    · rw [List.concat_eq_append] at *
      have hr := h r (by simp)
      obtain ⟨h1, h2⟩ := rankR_bd (n := n) hlo k (by simpa using hk) (fun q hq => h q (by simp [hq]))
      rw [rankR_snoc]
      have : ((k + 1 : Nat) : Int) * (hi - lo + 1) = k * (hi - lo + 1) + (hi - lo + 1) := by rw [Int.natCast_add, Int.add_mul]; simp
      split <;> omega
set_option maxHeartbeats 400000 in
set_option maxRecDepth 100000 in
theorem rank_any {σ : World} {F : List Res} {a : Option Addr} {c : Nat} {rl : List Run} (n : Int) (h : Sl σ F encRun 2 (.slice a rl.length c) rl) (hl : rl.length ≤ 1099511627776) (hb : inB 0 1048576 rl) (hn : -9223372036854775808 ≤ n ∧ n ≤ 9223372036854775807) :
    FnT Try.prog σ F 27 [bm a rl.length c, .int .i64 n] [] (fun u ρ => u = .int .i64 (rankR rl n) ∧ ρ = []) := by
  refine fn_of 32 Try.func27 rfl Try.ntmps27 rfl ?_
  refine w_seq ?_
  refine w_region ?_
  refine wl_op [] rfl rfl rfl rfl (op_box (T := 26) (l := 2) rfl) ?_
  rintro _ _ ⟨b2, rfl, rfl⟩
  refine wl_det rfl rfl rfl (op_assign rfl) ?_
  refine wl_nil ?_
  refine st_tn ?_
  refine w_seq ?_
  refine w_region ?_
  refine wl_det rfl rfl rfl (op_assign rfl) ?_
  refine wl_nil ?_
  refine st_tn ?_
  refine w_seq ?_
  refine w_seq ?_
  refine w_region ?_
  refine wl_det rfl rfl rfl (op_fieldAddr (off := 0) rfl tF26_0c) ?_
  refine wl_det rfl rfl rfl (op_load1 rfl tO24c (Ent.lab (l := 2) rfl (says_cel 0))) ?_
  refine wl_det rfl rfl rfl (op_lenT rfl tS24c (Sl.ent (by first | exact Sl.app (by assumption) _ | exact Sl.app (Sl.app (by assumption) _) _))) ?_
  refine wl_det rfl rfl rfl (op_move rfl) ?_
  refine wl_nil ?_
  refine st_tn ?_
  refine w_block ?_
  refine w_loop (X := Nat) (fun i => i ≤ rl.length) (fun i => [(1, .int .i64 n), (5, .int .i64 (rankR (rl.take i) n)), (9, .slice a rl.length c), (10, .int .i64 rl.length), (11, .int .i64 i)]) (fun _ => []) (fun i => rl.length - i) (0) (Nat.zero_le _) (.cons rfl (.cons rfl (.cons rfl (.cons rfl (.cons rfl (.nil _)))))) ⟨[], _, _, rfl, rfl⟩ ?_
  rintro i hi
  refine w_seq ?_
  refine w_region ?_
  refine wl_det rfl rfl rfl (op_lss rfl rfl) ?_
  refine wl_nil ?_
  refine st_tn ?_
  refine w_seq ?_
  refine w_cond_d rfl (fun hc12 => ?_) (fun hc12 => ?_)
  · -- c12.t
    obtain ⟨r, hr⟩ := getE (l := rl) (i := i) (by omega)
    have hlt := ltE hr
    have hbr := hb r (List.mem_of_getElem? hr)
    have hrk := rankR_bd (n := n) (lo := 0) (hi := 1048576) (by omega) i (rl := rl.take i) (by rw [List.length_take]; omega) (fun q hq => hb q (List.mem_of_mem_take hq))
    refine w_skip ?_
    refine st_tn ?_
    refine w_seq ?_
    refine w_block ?_
    refine w_seq ?_
    refine w_region ?_
    refine wl_det rfl rfl rfl (op_idx rfl rfl tS24c (Sl.ent (by first | exact Sl.app (by assumption) _ | exact Sl.app (Sl.app (by assumption) _) _)) (by omega)) ?_
    refine wl_det rfl rfl rfl (op_ldxA rfl tA58c (by first | exact Sl.app (by assumption) _ | exact Sl.app (Sl.app (by assumption) _) _) (by assumption) (by rfl) (by rfl)) ?_
    refine wl_op [] rfl rfl rfl rfl (op_alloc (l := 7) tN58c) ?_
    rintro _ _ ⟨b7, rfl, rfl⟩
    refine wl_op0 [7] rfl rfl rfl (op_store rfl rfl tZ58c (by rfl) (by rfl) (by exact Nat.le_of_ble_eq_true rfl)) ?_
    rintro _ _ ⟨rfl, rfl⟩
    refine wl_nil ?_
    refine st_tn ?_
    refine w_seq ?_
    refine w_region ?_
    refine wl_det rfl rfl rfl (op_fieldAddr (off := 0) rfl tF58_0c) ?_
    refine wl_det rfl rfl rfl (op_load1 rfl tO3c (Ent.lab (l := 7) rfl (says_cel 0))) ?_
    refine wl_det rfl rfl rfl (op_move rfl) ?_
    refine wl_det rfl rfl rfl (op_lss rfl rfl) ?_
    refine wl_nil ?_
    refine st_tn ?_
    refine w_cond_d rfl (fun hc18 => ?_) (fun hc18 => ?_)
    · -- c18.t
      refine w_region ?_
      refine wl_det rfl rfl rfl (op_move rfl) ?_
      refine wl_det rfl rfl rfl (op_fieldAddr (off := 1) rfl tF58_1c) ?_
      refine wl_det rfl rfl rfl (op_load1 rfl tO3c (Ent.lab (l := 7) rfl (says_cel 1))) ?_
      refine wl_det rfl rfl rfl (op_move rfl) ?_
      refine wl_det rfl rfl rfl (op_sub' rfl rfl (by omega)) ?_
      refine wl_det rfl rfl rfl (op_min rfl rfl) ?_
      refine wl_det rfl rfl rfl (op_fieldAddr (off := 0) rfl tF58_0c) ?_
      refine wl_det rfl rfl rfl (op_load1 rfl tO3c (Ent.lab (l := 7) rfl (says_cel 0))) ?_
      refine wl_det rfl rfl rfl (op_sub' rfl rfl (by omega)) ?_
      refine wl_det rfl rfl rfl (op_add' rfl rfl (by omega)) ?_
      refine wl_det rfl rfl rfl (op_add' rfl rfl (by omega)) ?_
      refine wl_det rfl rfl rfl (op_assign rfl) ?_
      refine wl_nil ?_
      refine st_bn ?_
      refine st_tn ?_
      refine w_region ?_
      refine wl_det rfl rfl rfl (op_add' rfl rfl (by omega)) ?_
      refine wl_det rfl rfl rfl (op_move rfl) ?_
      refine wl_nil ?_
      refine st_round (x := i) (i + 1) [] (by omega) (by omega) (.cons rfl (.cons (by rw [take_snoc hr, rankR_snoc]; simp only [lk, hc18, if_true, if_false]; rfl) (.cons rfl (.cons rfl (.cons rfl (.nil _)))))) rfl (rfl) 
    · -- c18.f
      refine w_skip ?_
      refine st_bn ?_
      refine st_tn ?_
      refine w_region ?_
      refine wl_det rfl rfl rfl (op_add' rfl rfl (by omega)) ?_
      refine wl_det rfl rfl rfl (op_move rfl) ?_
      refine wl_nil ?_
      refine st_round (x := i) (i + 1) [] (by omega) (by omega) (.cons rfl (.cons (by rw [take_snoc hr, rankR_snoc]; simp only [lk, hc18, if_true, if_false]; rfl) (.cons rfl (.cons rfl (.cons rfl (.nil _)))))) rfl (rfl) 
  · -- c12.f
    refine w_exit ?_
    refine st_te ?_
    refine st_te ?_
    refine st_be ?_
    refine st_tn ?_
    refine w_seq ?_
    refine w_region ?_
    refine wl_det rfl rfl rfl (op_move rfl) ?_
    refine wl_det rfl rfl rfl (op_assign rfl) ?_
    refine wl_nil ?_
    refine st_tn ?_
    refine w_ret ?_
    refine st_ret (vs := [_]) [] Try.results27 ⟨rfl, trivial⟩ rfl ?_
    refine ⟨_, rfl, ?_⟩
    refine ⟨?_, rfl⟩; rw [take_all (by omega)]; rfl

set_option maxHeartbeats 400000 in
set_option maxRecDepth 100000 in
theorem len_any {σ : World} {F : List Res} {a : Option Addr} {c : Nat} {rl : List Run} (h : Sl σ F encRun 2 (.slice a rl.length c) rl) (hl : rl.length ≤ 1099511627776) (hb : inB 0 1048576 rl) :
    FnT Try.prog σ F 20 [bm a rl.length c] [] (fun u ρ => u = .int .i64 (rankR rl 1048576) ∧ ρ = []) := by
  refine fn_of 5 Try.func20 rfl Try.ntmps20 rfl ?_
  refine w_seq ?_
  refine w_region ?_
  refine wl_op [] rfl rfl rfl rfl (op_box (T := 26) (l := 1) rfl) ?_
  rintro _ _ ⟨b1, rfl, rfl⟩
  refine wl_det rfl rfl rfl (op_assign rfl) ?_
  refine wl_nil ?_
  refine st_tn ?_
  refine w_seq ?_
  refine w_region ?_
  refine wl_det rfl rfl rfl (op_loadA rfl tA26c (Ent.lab (l := 1) rfl (says_cel 0)) (Nat.le_of_ble_eq_true rfl)) ?_
  refine wl_det rfl rfl rfl (op_fn Try.func27 rfl rfl rfl (rank_any _ (Sl.app h _) hl hb (by omega))) ?_
  refine wl_det rfl rfl rfl (op_assign rfl) ?_
  refine wl_nil ?_
  refine st_tn ?_
  refine w_ret ?_
  refine st_ret (vs := [_]) [] Try.results20 ⟨rfl, trivial⟩ rfl ?_
  refine ⟨_, rfl, ?_⟩
  exact ⟨rfl, rfl⟩

end Go.Proofs.Ytkknlfhncheflaa
