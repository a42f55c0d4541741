/- Contracts: Read, Durable, List and the small methods of a disk (layer 26). Conditions: none. -/
import Derived.Test.YtjlbeakdgadpmaaD2
namespace Go.Proofs.Ytjlbeakdgadpmaa
open Go Go.SL Go.RowKit Go.DskM
set_option linter.unusedVariables false
set_option linter.unusedSimpArgs false
theorem tF65_0c : fieldB Try.prog 65 0 0 = true := by kernel_rfl
theorem tF65_1c : fieldB Try.prog 65 1 1 = true := by kernel_rfl
theorem tF65_2c : fieldB Try.prog 65 2 2 = true := by kernel_rfl
theorem tF65_3c : fieldB Try.prog 65 3 3 = true := by kernel_rfl
theorem tF65_4c : fieldB Try.prog 65 4 4 = true := by kernel_rfl
theorem tF68_0c : fieldB Try.prog 68 0 0 = true := by kernel_rfl
theorem tF68_1c : fieldB Try.prog 68 1 1 = true := by kernel_rfl
theorem tN68c : (Try.prog.info? 68).bind (·.zero) = some (Value.agg #[Value.string .empty, Value.int .i64 0, Value.bool false]) := by kernel_rfl
theorem tO3c : oneB Try.prog 3 = true := by kernel_rfl
theorem tO4c : oneB Try.prog 4 = true := by kernel_rfl
theorem tO63c : oneB Try.prog 63 = true := by kernel_rfl
theorem tO9c : oneB Try.prog 9 = true := by kernel_rfl
theorem tZ3c : (Try.prog.info? 3).map (·.size) = some 1 := by kernel_rfl
theorem tZ4c : (Try.prog.info? 4).map (·.size) = some 1 := by kernel_rfl
theorem tZ68c : (Try.prog.info? 68).map (·.size) = some 3 := by kernel_rfl

theorem read_find (s : St) (n : Bs) (d : Bool) : readO s n d = (if d = true then (findO s n).1.data.take (findO s n).1.syn else (findO s n).1.data, (findO s n).2) := by
  unfold readO findO
  split
  · cases d <;> rfl
  · cases find s.fs n <;> cases d <;> rfl
theorem find_syn {s : St} (hg : DskM.Good s) (n : Bs) : (findO s n).1.syn ≤ (findO s n).1.data.length := by
  unfold findO
  split
  · exact Nat.le_refl _
  · cases hf : find s.fs n with
    | none => exact Nat.le_refl _
    | some f => exact hg.syn _ (find_mem hf)
-- CALL (*sleuth/disk.Disk).find find_any n hg hp hn (Ent.app hd _) (Ent.app hm' _)
set_option maxHeartbeats 400000 in
set_option maxRecDepth 100000 in
theorem read_any {σ : World} {F : List Res} {b m : Nat} {s : St} {l : Files} (n : Bs) (hg : DskM.Good s) (hp : l.Perm s.fs) (hn : n.length ≤ maxLen) (hd : Ent σ F (At ⟨b, 0, none⟩ (cellD s m))) (hm' : Mr σ F KL encF (.map (some m)) l) :
    FnT Try.prog σ F 28 [.pointer (some ⟨b, 0, none⟩), .string (str n)] [] (fun u ρ => u = .tuple #[.string (str (readO s n false).1), .int .i64 (readO s n false).2] ∧ ρ = []) := by
  refine fn_of 17 Try.func28 rfl Try.ntmps28 rfl ?_
  refine w_seq ?_
  refine w_region ?_
  refine wl_det rfl rfl rfl (op_assign rfl) ?_
  refine wl_det rfl rfl rfl (op_assign rfl) ?_
  refine wl_nil ?_
  refine st_tn ?_
  refine w_seq ?_
  refine w_region ?_
  refine wl_det rfl rfl rfl (op_move rfl) ?_
  refine wl_det rfl rfl rfl (op_move rfl) ?_
  refine wl_det rfl rfl rfl (op_fn Try.func37 rfl rfl rfl (find_any n hg hp hn (Ent.app hd _) (Ent.app hm' _))) ?_
  refine wl_det rfl rfl rfl (op_move rfl) ?_
  refine wl_det rfl rfl rfl (op_extract rfl rfl) ?_
  refine wl_det rfl rfl rfl (op_extract rfl rfl) ?_
  refine wl_op [] rfl rfl rfl rfl (op_alloc (l := 6) tN68c) ?_
  rintro _ _ ⟨b6, rfl, rfl⟩
  refine wl_op0 [6] rfl rfl rfl (op_store rfl rfl tZ68c (by rfl) (by rfl) (by exact Nat.le_of_ble_eq_true rfl)) ?_
  rintro _ _ ⟨rfl, rfl⟩
  refine wl_det rfl rfl rfl (op_assign rfl) ?_
  refine wl_nil ?_
  refine st_tn ?_
  refine w_seq ?_
  refine w_region ?_
  refine wl_det rfl rfl rfl (op_fieldAddr (off := 0) rfl tF68_0c) ?_
  refine wl_det rfl rfl rfl (op_load1 rfl tO9c (Ent.lab (l := 6) rfl (says_cel 0))) ?_
  refine wl_det rfl rfl rfl (op_move rfl) ?_
  refine wl_det rfl rfl rfl (op_assign rfl) ?_
  refine wl_det rfl rfl rfl (op_assign rfl) ?_
  refine wl_nil ?_
  refine st_tn ?_
  refine w_ret ?_
  refine st_ret (vs := [_, _]) [] Try.results28 ⟨rfl, ⟨rfl, trivial⟩⟩ rfl ?_
  refine ⟨_, rfl, ?_⟩
  rw [read_find]; exact ⟨rfl, rfl⟩

set_option maxHeartbeats 400000 in
set_option maxRecDepth 100000 in
theorem durable_any {σ : World} {F : List Res} {b m : Nat} {s : St} {l : Files} (n : Bs) (hg : DskM.Good s) (hp : l.Perm s.fs) (hn : n.length ≤ maxLen) (hd : Ent σ F (At ⟨b, 0, none⟩ (cellD s m))) (hm' : Mr σ F KL encF (.map (some m)) l) :
    FnT Try.prog σ F 33 [.pointer (some ⟨b, 0, none⟩), .string (str n)] [] (fun u ρ => u = .tuple #[.string (str (readO s n true).1), .int .i64 (readO s n true).2] ∧ ρ = []) := by
  refine fn_of 20 Try.func33 rfl Try.ntmps33 rfl ?_
  have hsy := find_syn hg n
  refine w_seq ?_
  refine w_region ?_
  refine wl_det rfl rfl rfl (op_assign rfl) ?_
  refine wl_det rfl rfl rfl (op_assign rfl) ?_
  refine wl_nil ?_
  refine st_tn ?_
  refine w_seq ?_
  refine w_region ?_
  refine wl_det rfl rfl rfl (op_move rfl) ?_
  refine wl_det rfl rfl rfl (op_move rfl) ?_
  refine wl_det rfl rfl rfl (op_fn Try.func37 rfl rfl rfl (find_any n hg hp hn (Ent.app hd _) (Ent.app hm' _))) ?_
  refine wl_det rfl rfl rfl (op_move rfl) ?_
  refine wl_det rfl rfl rfl (op_extract rfl rfl) ?_
  refine wl_det rfl rfl rfl (op_extract rfl rfl) ?_
  refine wl_op [] rfl rfl rfl rfl (op_alloc (l := 6) tN68c) ?_
  rintro _ _ ⟨b6, rfl, rfl⟩
  refine wl_op0 [6] rfl rfl rfl (op_store rfl rfl tZ68c (by rfl) (by rfl) (by exact Nat.le_of_ble_eq_true rfl)) ?_
  rintro _ _ ⟨rfl, rfl⟩
  refine wl_det rfl rfl rfl (op_assign rfl) ?_
  refine wl_nil ?_
  refine st_tn ?_
  refine w_seq ?_
  refine w_region ?_
  refine wl_det rfl rfl rfl (op_fieldAddr (off := 0) rfl tF68_0c) ?_
  refine wl_det rfl rfl rfl (op_load1 rfl tO9c (Ent.lab (l := 6) rfl (says_cel 0))) ?_
  refine wl_det rfl rfl rfl (op_fieldAddr (off := 1) rfl tF68_1c) ?_
  refine wl_det rfl rfl rfl (op_load1 rfl tO3c (Ent.lab (l := 6) rfl (says_cel 1))) ?_
  refine wl_det rfl rfl rfl (op_sliceRBs rfl rfl Try.underlying9 (by omega)) ?_
  refine wl_det rfl rfl rfl (op_move rfl) ?_
  refine wl_det rfl rfl rfl (op_assign rfl) ?_
  refine wl_det rfl rfl rfl (op_assign rfl) ?_
  refine wl_nil ?_
  refine st_tn ?_
  refine w_ret ?_
  refine st_ret (vs := [_, _]) [] Try.results33 ⟨rfl, ⟨rfl, trivial⟩⟩ rfl ?_
  refine ⟨_, rfl, ?_⟩
  rw [read_find]; exact ⟨rfl, rfl⟩

set_option maxHeartbeats 400000 in
set_option maxRecDepth 100000 in
theorem down_any {σ : World} {F : List Res} {b m : Nat} (s : St) (hd : Ent σ F (At ⟨b, 0, none⟩ (cellD s m))) :
    FnT Try.prog σ F 23 [.pointer (some ⟨b, 0, none⟩)] [] (fun u ρ => u = .bool s.down ∧ ρ = []) := by
  refine fn_of 11 Try.func23 rfl Try.ntmps23 rfl ?_
  refine w_seq ?_
  refine w_region ?_
  refine wl_det rfl rfl rfl (op_assign rfl) ?_
  refine wl_nil ?_
  refine st_tn ?_
  refine w_seq ?_
  refine w_region ?_
  refine wl_det rfl rfl rfl (op_move rfl) ?_
  refine wl_det rfl rfl rfl (op_val (v' := .bool true) (by simp) (op_nePtr rfl Try.underlying22)) ?_
  refine wl_det rfl rfl rfl (op_move rfl) ?_
  refine wl_wanted_det rfl rfl rfl rfl rfl rfl rfl (op_move rfl) ?_
  refine wl_wanted_det rfl rfl rfl rfl rfl rfl rfl (op_nilCheck rfl) ?_
  refine wl_wanted_det rfl rfl rfl rfl rfl rfl rfl (op_fieldAddr (off := 2) rfl tF65_2c) ?_
  refine wl_wanted_det rfl rfl rfl rfl rfl rfl rfl (op_load1 rfl tO4c (Ent.app (Ent.fld hd 2) _)) ?_
  refine wl_det rfl rfl rfl (op_pick_t rfl rfl) ?_
  refine wl_det rfl rfl rfl (op_assign rfl) ?_
  refine wl_nil ?_
  refine st_tn ?_
  refine w_ret ?_
  refine st_ret (vs := [_]) [] Try.results23 ⟨rfl, trivial⟩ rfl ?_
  refine ⟨_, rfl, ?_⟩
  exact ⟨rfl, rfl⟩

set_option maxHeartbeats 400000 in
set_option maxRecDepth 100000 in
theorem cap_any {σ : World} {F : List Res} {b m : Nat} (s : St) (hd : Ent σ F (At ⟨b, 0, none⟩ (cellD s m))) :
    FnT Try.prog σ F 34 [.pointer (some ⟨b, 0, none⟩)] [] (fun u ρ => u = .int .i64 s.cap ∧ ρ = []) := by
  refine fn_of 9 Try.func34 rfl Try.ntmps34 rfl ?_
  refine w_seq ?_
  refine w_region ?_
  refine wl_det rfl rfl rfl (op_assign rfl) ?_
  refine wl_nil ?_
  refine st_tn ?_
  refine w_seq ?_
  refine w_seq ?_
  refine w_region ?_
  refine wl_det rfl rfl rfl (op_move rfl) ?_
  refine wl_det rfl rfl rfl (op_val (v' := .bool false) (by simp) (op_eqPtr rfl Try.underlying22)) ?_
  refine wl_nil ?_
  refine st_tn ?_
  refine w_cond_f (rfl) ?_
  refine w_skip ?_
  refine st_tn ?_
  refine w_seq ?_
  refine w_region ?_
  refine wl_det rfl rfl rfl (op_move rfl) ?_
  refine wl_det rfl rfl rfl (op_nilCheck rfl) ?_
  refine wl_det rfl rfl rfl (op_fieldAddr (off := 0) rfl tF65_0c) ?_
  refine wl_det rfl rfl rfl (op_load1 rfl tO3c (Ent.app (Ent.fld hd 0) _)) ?_
  refine wl_det rfl rfl rfl (op_assign rfl) ?_
  refine wl_nil ?_
  refine st_tn ?_
  refine w_ret ?_
  refine st_ret (vs := [_]) [] Try.results34 ⟨rfl, trivial⟩ rfl ?_
  refine ⟨_, rfl, ?_⟩
  exact ⟨rfl, rfl⟩

set_option maxHeartbeats 400000 in
set_option maxRecDepth 100000 in
theorem limit_any {σ : World} {F : List Res} {b m : Nat} (s : St) (k : Int) :
    FnT Try.prog σ F 19 [.pointer (some ⟨b, 0, none⟩), .int .i64 k] [(601, cel b (cellD s m) 65)] (fun u ρ => u = .tuple #[] ∧ ρ = [(601, cel b (cellD (limO s k) m) 65)]) := by
  refine fn_of 14 Try.func19 rfl Try.ntmps19 rfl ?_
  refine w_seq ?_
  refine w_region ?_
  refine wl_det rfl rfl rfl (op_move rfl) ?_
  refine wl_det rfl rfl rfl (op_val (v' := .bool true) (by simp) (op_nePtr rfl Try.underlying22)) ?_
  refine wl_nil ?_
  refine st_tn ?_
  refine w_cond_t (rfl) ?_
  refine w_region ?_
  refine wl_det rfl rfl rfl (op_move rfl) ?_
  refine wl_det rfl rfl rfl (op_move rfl) ?_
  refine wl_det rfl rfl rfl (op_move rfl) ?_
  refine wl_det rfl rfl rfl (op_max rfl rfl) ?_
  refine wl_det rfl rfl rfl (op_nilCheck rfl) ?_
  refine wl_det rfl rfl rfl (op_fieldAddr (off := 3) rfl tF65_3c) ?_
  refine wl_op0 [601] rfl rfl rfl (op_store rfl rfl tZ4c (by rfl) (by rfl) (by exact Nat.le_of_ble_eq_true rfl)) ?_
  rintro _ _ ⟨rfl, rfl⟩
  refine wl_det rfl rfl rfl (op_nilCheck rfl) ?_
  refine wl_det rfl rfl rfl (op_fieldAddr (off := 4) rfl tF65_4c) ?_
  refine wl_op0 [601] rfl rfl rfl (op_store rfl rfl tZ3c (by rfl) (by rfl) (by exact Nat.le_of_ble_eq_true rfl)) ?_
  rintro _ _ ⟨rfl, rfl⟩
  refine wl_nil ?_
  refine st_end (vs := []) [601] Try.results19 trivial rfl ?_
  refine ⟨[(601, _)], rfl, ?_⟩
  exact ⟨rfl, rfl⟩

set_option maxHeartbeats 400000 in
set_option maxRecDepth 100000 in
theorem crash_any {σ : World} {F : List Res} {b m : Nat} (s : St) :
    FnT Try.prog σ F 25 [.pointer (some ⟨b, 0, none⟩)] [(601, cel b (cellD s m) 65)] (fun u ρ => u = .tuple #[] ∧ ρ = [(601, cel b (cellD (craO s) m) 65)]) := by
  refine fn_of 7 Try.func25 rfl Try.ntmps25 rfl ?_
  refine w_seq ?_
  refine w_region ?_
  refine wl_det rfl rfl rfl (op_move rfl) ?_
  refine wl_det rfl rfl rfl (op_val (v' := .bool true) (by simp) (op_nePtr rfl Try.underlying22)) ?_
  refine wl_nil ?_
  refine st_tn ?_
  refine w_cond_t (rfl) ?_
  refine w_region ?_
  refine wl_det rfl rfl rfl (op_move rfl) ?_
  refine wl_det rfl rfl rfl (op_nilCheck rfl) ?_
  refine wl_det rfl rfl rfl (op_fieldAddr (off := 2) rfl tF65_2c) ?_
  refine wl_op0 [601] rfl rfl rfl (op_store rfl rfl tZ4c (by rfl) (by rfl) (by exact Nat.le_of_ble_eq_true rfl)) ?_
  rintro _ _ ⟨rfl, rfl⟩
  refine wl_nil ?_
  refine st_end (vs := []) [601] Try.results25 trivial rfl ?_
  refine ⟨[(601, _)], rfl, ?_⟩
  exact ⟨rfl, rfl⟩

def listO (s : St) : List Bs := if s.down = true then [] else keysOf s.fs
theorem ready_nil (s : St) : readyE s [] = if s.down = true then 27 else 0 := by unfold readyE; simp
set_option maxHeartbeats 400000 in
set_option maxRecDepth 100000 in
theorem list_any {σ : World} {F : List Res} {b m : Nat} {s : St} {l : Files} (lab : Nat) (hg : DskM.Good s) (hp : l.Perm s.fs) (hd : Ent σ F (At ⟨b, 0, none⟩ (cellD s m))) (hm' : Mr σ F KL encF (.map (some m)) l) :
    FnT Try.prog σ F 27 [.pointer (some ⟨b, 0, none⟩)] [] (fun u ρ => ∃ a c, u = .slice a (listO s).length c ∧ ρ = [(lab, slW 9 encT 1 (.slice a (listO s).length c) (listO s))]) := by
  refine fn_of 12 Try.func27 rfl Try.ntmps27 rfl ?_
  refine w_seq ?_
  refine w_region ?_
  refine wl_det rfl rfl rfl (op_assign rfl) ?_
  refine wl_nil ?_
  refine st_tn ?_
  refine w_seq ?_
  refine w_seq ?_
  refine w_region ?_
  refine wl_det rfl rfl rfl (op_move rfl) ?_
  refine wl_det rfl rfl rfl (op_fn Try.func35 rfl rfl rfl (ready_any (s := s) (m := m) (l := []) (Ent.app hd _) Sl.nilv (by simp))) ?_
  refine wl_det rfl rfl rfl (op_neq rfl rfl) ?_
  refine wl_nil ?_
  refine st_tn ?_
  refine w_cond_d rfl (fun hc5 => ?_) (fun hc5 => ?_)
  · -- c5.t
    have hdn : listO s = [] := by
      rw [ready_nil] at hc5
      unfold listO
      by_cases h : s.down = true <;> simp [h] at hc5 ⊢
    refine w_seq ?_
    refine w_region ?_
    refine wl_det rfl rfl rfl (op_assign rfl) ?_
    refine wl_nil ?_
    refine st_tn ?_
    refine w_emp 12 (slO_nil 9 1) ?_
    refine w_ret ?_
    refine st_tr ?_
    refine st_ret (vs := [_]) [12] Try.results27 ⟨rfl, trivial⟩ rfl ?_
    refine ⟨[(lab, _)], rfl, ?_⟩
    rw [hdn]; exact ⟨_, _, rfl, rfl⟩
  · -- c5.f
    have hdn : listO s = keysOf s.fs := by
      rw [ready_nil] at hc5
      unfold listO
      by_cases h : s.down = true <;> simp [h] at hc5 ⊢
    refine w_skip ?_
    refine st_tn ?_
    refine w_seq ?_
    refine w_region ?_
    refine wl_det rfl rfl rfl (op_move rfl) ?_
    refine wl_det rfl rfl rfl (op_nilCheck rfl) ?_
    refine wl_det rfl rfl rfl (op_fieldAddr (off := 1) rfl tF65_1c) ?_
    refine wl_det rfl rfl rfl (op_load1 rfl tO63c (Ent.app (Ent.fld hd 1) _)) ?_
    refine wl_op [] rfl rfl rfl rfl (op_fn Try.func44 rfl rfl rfl (keys_any 10)) ?_
    rintro _ _ ⟨b10, rfl, rfl⟩
    refine wl_op [] rfl rfl rfl rfl (op_fn Try.func43 rfl rfl rfl (sortedK 11 (Ent.lab (l := 10) rfl (says_cel 0)) (Ent.app hm' _) hp hg.inc (name_len hg) hg.cnt)) ?_
    rintro _ _ ⟨a11, c11, rfl, rfl⟩
    refine wl_det rfl rfl rfl (op_assign rfl) ?_
    refine wl_nil ?_
    refine st_tn ?_
    refine w_ret ?_
    refine st_ret (vs := [_]) [11] Try.results27 ⟨rfl, trivial⟩ rfl ?_
    refine ⟨[(lab, _)], rfl, ?_⟩
    rw [hdn]; exact ⟨_, _, rfl, rfl⟩

end Go.Proofs.Ytjlbeakdgadpmaa
