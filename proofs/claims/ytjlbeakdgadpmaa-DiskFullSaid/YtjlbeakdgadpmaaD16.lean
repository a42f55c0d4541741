/- Law Nil: methods of a nil disk (layer 26). Conditions: none. -/
import Derived.Test.YtjlbeakdgadpmaaD15
namespace Go.Proofs.Ytjlbeakdgadpmaa
open Go Go.SL Go.RowKit Go.DskM
set_option linter.unusedVariables false
set_option linter.unusedSimpArgs false
theorem tA68p : aggB Try.prog 68 3 = true := by kernel_rfl
theorem tB68p : placesB Try.prog 68 = some ([(0, 1), (1, 1), (2, 1)], [Value.string .empty, Value.int .i64 0, Value.bool false]) := by kernel_rfl
theorem tF68_0p : fieldB Try.prog 68 0 0 = true := by kernel_rfl
theorem tF68_1p : fieldB Try.prog 68 1 1 = true := by kernel_rfl
theorem tL48_1p : zerosB Try.prog 48 9 1 1 = some [Value.string .empty] := by kernel_rfl
theorem tL48_2p : zerosB Try.prog 48 9 1 2 = some [Value.string .empty, Value.string .empty] := by kernel_rfl
theorem tN68p : (Try.prog.info? 68).bind (·.zero) = some (Value.agg #[Value.string .empty, Value.int .i64 0, Value.bool false]) := by kernel_rfl
theorem tO3p : oneB Try.prog 3 = true := by kernel_rfl
theorem tO9p : oneB Try.prog 9 = true := by kernel_rfl
theorem tS48p : sliceB Try.prog 48 9 1 = true := by kernel_rfl
theorem tZ68p : (Try.prog.info? 68).map (·.size) = some 3 := by kernel_rfl

section
variable {P : Program} {σ : World} {n : Nat} {F : List Res} {e : Env} {dst : Option Tmp} {ty : TypeId} {pos : String} {after : Array Edge} {guard : Option (Nat × Bool)}
theorem op_eqPP {T E : Nat} {x y : Operand} {a b : Option Addr} {t2 : TypeId} (hx : ev e x = some (.pointer a)) (hy : ev e y = some (.pointer b)) (hu : P.underlying T = some (.pointer E)) (h : a = none ∨ b = none) :
    OpT P σ n F ⟨dst, .binOp .eql T x y t2, ty, pos, after, guard⟩ e [] (Det (.bool (decide (a = b)))) :=
  opt_run fun A w hr _ => by
    have h : (Op.equal T (.pointer a) (.pointer b)).run P w = .ok (decide (a = b)) w := by
      show (Op.equalIn (9999 + 1) T _ _).run P w = _
      unfold Op.equalIn
      rcases h with rfl | rfl
      · cases b <;> simp [run_underlying hu, Sem.run_bind]
      · cases a <;> simp [run_underlying hu, Sem.run_bind]
    simp [execOp, hr.ev hx, hr.ev hy, eqGuard, Sem.run_bind, binOp, h]
end
set_option maxHeartbeats 400000 in
set_option maxRecDepth 100000 in
theorem ready_no {σ : World} {F : List Res} (v : Value) : FnT Try.prog σ F 35 [.pointer none, v] [] (fun u ρ => u = .int .i64 1 ∧ ρ = []) := by
  refine fn_of 25 Try.func35 rfl Try.ntmps35 rfl ?_
  refine w_seq ?_
  refine w_region ?_
  refine wl_det rfl rfl rfl (op_assign rfl) ?_
  refine wl_nil ?_
  refine st_tn ?_
  refine w_seq ?_
  refine w_block ?_
  refine w_seq ?_
  refine w_region ?_
  refine wl_det rfl rfl rfl (op_move rfl) ?_
  refine wl_det rfl rfl rfl (op_val (v' := .bool true) (by simp) (op_eqPtr rfl Try.underlying22)) ?_
  refine wl_det rfl rfl rfl (op_assign rfl) ?_
  refine wl_nil ?_
  refine st_tn ?_
  refine w_cond_t (rfl) ?_
  refine w_seq ?_
  refine w_region ?_
  refine wl_det rfl rfl rfl (op_assign rfl) ?_
  refine wl_nil ?_
  refine st_tn ?_
  refine w_ret ?_
  refine st_br ?_
  refine st_tr ?_
  refine st_ret (vs := [_]) [] Try.results35 ⟨rfl, trivial⟩ rfl ?_
  refine ⟨_, rfl, ?_⟩
  exact ⟨rfl, rfl⟩

-- CALL (*sleuth/disk.Disk).ready ready_no _
set_option maxHeartbeats 400000 in
set_option maxRecDepth 100000 in
theorem find_no {σ : World} {F : List Res} (n : Bs) : FnT Try.prog σ F 37 [.pointer none, .string (str n)] [] (fun u ρ => u = .tuple #[encF zeroF, .int .i64 1] ∧ ρ = []) := by
  refine fn_of 30 Try.func37 rfl Try.ntmps37 rfl ?_
  refine w_seq ?_
  refine w_region ?_
  refine wl_op [] rfl rfl rfl rfl (op_alloc (l := 4) tN68p) ?_
  rintro _ _ ⟨b4, rfl, rfl⟩
  refine wl_det rfl rfl rfl (op_assign rfl) ?_
  refine wl_nil ?_
  refine st_tn ?_
  refine w_seq ?_
  refine w_seq ?_
  refine w_region ?_
  refine wl_det rfl rfl rfl (op_move rfl) ?_
  refine wl_det rfl rfl rfl (op_move rfl) ?_
  refine wl_op [] rfl rfl rfl rfl (op_buildSlice (enc := encT) (l := [_]) (lab := 11) tL48_1p rfl rfl (fun _ => rfl) rfl) ?_
  rintro _ _ ⟨a11, c11, rfl, rfl⟩
  refine wl_det rfl rfl rfl (op_fn Try.func35 rfl rfl rfl (ready_no _)) ?_
  refine wl_det rfl rfl rfl (op_assign rfl) ?_
  refine wl_nil ?_
  refine st_tn ?_
  refine w_seq ?_
  refine w_region ?_
  refine wl_det rfl rfl rfl (op_move rfl) ?_
  refine wl_det rfl rfl rfl (op_val (v' := .bool true) (by simp) (op_neq rfl rfl)) ?_
  refine wl_nil ?_
  refine st_tn ?_
  refine w_cond_t (rfl) ?_
  refine w_seq ?_
  refine w_region ?_
  refine wl_det rfl rfl rfl (op_build tB68p rfl rfl) ?_
  refine wl_det rfl rfl rfl (op_move rfl) ?_
  refine wl_op0 [4] rfl rfl rfl (op_store rfl rfl tZ68p (by rfl) (by rfl) (by exact Nat.le_of_ble_eq_true rfl)) ?_
  rintro _ _ ⟨rfl, rfl⟩
  refine wl_det rfl rfl rfl (op_assign rfl) ?_
  refine wl_nil ?_
  refine st_tn ?_
  refine w_ret ?_
  refine st_tr ?_
  refine st_ret (vs := [_, _]) [] Try.results37 ⟨⟨_, rfl, Ent.mono (Ent.lab (l := 4) rfl (says_cel 0)) (fun _ h => run_load_agg tA68p h (Nat.le_of_ble_eq_true rfl))⟩, ⟨rfl, trivial⟩⟩ rfl ?_
  refine ⟨_, rfl, ?_⟩
  exact ⟨rfl, rfl⟩

-- CALL (*sleuth/disk.Disk).find find_no _
set_option maxHeartbeats 400000 in
set_option maxRecDepth 100000 in
theorem append_no {σ : World} {F : List Res} (n d : Bs) : FnT Try.prog σ F 15 [.pointer none, .string (str n), .string (str d)] [] (fun u ρ => u = .int .i64 1 ∧ ρ = []) := by
  refine fn_of 62 Try.func15 rfl Try.ntmps15 rfl ?_
  refine w_seq ?_
  refine w_region ?_
  refine wl_det rfl rfl rfl (op_assign rfl) ?_
  refine wl_nil ?_
  refine st_tn ?_
  refine w_seq ?_
  refine w_seq ?_
  refine w_region ?_
  refine wl_det rfl rfl rfl (op_move rfl) ?_
  refine wl_det rfl rfl rfl (op_move rfl) ?_
  refine wl_op [] rfl rfl rfl rfl (op_buildSlice (enc := encT) (l := [_]) (lab := 12) tL48_1p rfl rfl (fun _ => rfl) rfl) ?_
  rintro _ _ ⟨a12, c12, rfl, rfl⟩
  refine wl_det rfl rfl rfl (op_fn Try.func35 rfl rfl rfl (ready_no _)) ?_
  refine wl_det rfl rfl rfl (op_assign rfl) ?_
  refine wl_nil ?_
  refine st_tn ?_
  refine w_seq ?_
  refine w_region ?_
  refine wl_det rfl rfl rfl (op_move rfl) ?_
  refine wl_det rfl rfl rfl (op_val (v' := .bool true) (by simp) (op_neq rfl rfl)) ?_
  refine wl_nil ?_
  refine st_tn ?_
  refine w_cond_t (rfl) ?_
  refine w_seq ?_
  refine w_region ?_
  refine wl_det rfl rfl rfl (op_move rfl) ?_
  refine wl_det rfl rfl rfl (op_assign rfl) ?_
  refine wl_nil ?_
  refine st_tn ?_
  refine w_ret ?_
  refine st_tr ?_
  refine st_ret (vs := [_]) [] Try.results15 ⟨rfl, trivial⟩ rfl ?_
  refine ⟨_, rfl, ?_⟩
  exact ⟨rfl, rfl⟩

set_option maxHeartbeats 400000 in
set_option maxRecDepth 100000 in
theorem sync_no {σ : World} {F : List Res} (n : Bs) : FnT Try.prog σ F 21 [.pointer none, .string (str n)] [] (fun u ρ => u = .int .i64 1 ∧ ρ = []) := by
  refine fn_of 42 Try.func21 rfl Try.ntmps21 rfl ?_
  refine w_seq ?_
  refine w_region ?_
  refine wl_det rfl rfl rfl (op_assign rfl) ?_
  refine wl_nil ?_
  refine st_tn ?_
  refine w_seq ?_
  refine w_seq ?_
  refine w_region ?_
  refine wl_det rfl rfl rfl (op_move rfl) ?_
  refine wl_det rfl rfl rfl (op_move rfl) ?_
  refine wl_op [] rfl rfl rfl rfl (op_buildSlice (enc := encT) (l := [_]) (lab := 10) tL48_1p rfl rfl (fun _ => rfl) rfl) ?_
  rintro _ _ ⟨a10, c10, rfl, rfl⟩
  refine wl_det rfl rfl rfl (op_fn Try.func35 rfl rfl rfl (ready_no _)) ?_
  refine wl_det rfl rfl rfl (op_assign rfl) ?_
  refine wl_nil ?_
  refine st_tn ?_
  refine w_seq ?_
  refine w_region ?_
  refine wl_det rfl rfl rfl (op_move rfl) ?_
  refine wl_det rfl rfl rfl (op_val (v' := .bool true) (by simp) (op_neq rfl rfl)) ?_
  refine wl_nil ?_
  refine st_tn ?_
  refine w_cond_t (rfl) ?_
  refine w_seq ?_
  refine w_region ?_
  refine wl_det rfl rfl rfl (op_move rfl) ?_
  refine wl_det rfl rfl rfl (op_assign rfl) ?_
  refine wl_nil ?_
  refine st_tn ?_
  refine w_ret ?_
  refine st_tr ?_
  refine st_ret (vs := [_]) [] Try.results21 ⟨rfl, trivial⟩ rfl ?_
  refine ⟨_, rfl, ?_⟩
  exact ⟨rfl, rfl⟩

set_option maxHeartbeats 400000 in
set_option maxRecDepth 100000 in
theorem rename_no {σ : World} {F : List Res} (n o : Bs) : FnT Try.prog σ F 22 [.pointer none, .string (str n), .string (str o)] [] (fun u ρ => u = .int .i64 1 ∧ ρ = []) := by
  refine fn_of 45 Try.func22 rfl Try.ntmps22 rfl ?_
  refine w_seq ?_
  refine w_region ?_
  refine wl_det rfl rfl rfl (op_assign rfl) ?_
  refine wl_nil ?_
  refine st_tn ?_
  refine w_seq ?_
  refine w_seq ?_
  refine w_region ?_
  refine wl_det rfl rfl rfl (op_move rfl) ?_
  refine wl_det rfl rfl rfl (op_move rfl) ?_
  refine wl_det rfl rfl rfl (op_move rfl) ?_
  refine wl_op [] rfl rfl rfl rfl (op_buildSlice (enc := encT) (l := [_, _]) (lab := 13) tL48_2p rfl rfl (fun _ => rfl) rfl) ?_
  rintro _ _ ⟨a13, c13, rfl, rfl⟩
  refine wl_det rfl rfl rfl (op_fn Try.func35 rfl rfl rfl (ready_no _)) ?_
  refine wl_det rfl rfl rfl (op_assign rfl) ?_
  refine wl_nil ?_
  refine st_tn ?_
  refine w_seq ?_
  refine w_region ?_
  refine wl_det rfl rfl rfl (op_move rfl) ?_
  refine wl_det rfl rfl rfl (op_val (v' := .bool true) (by simp) (op_neq rfl rfl)) ?_
  refine wl_nil ?_
  refine st_tn ?_
  refine w_cond_t (rfl) ?_
  refine w_seq ?_
  refine w_region ?_
  refine wl_det rfl rfl rfl (op_move rfl) ?_
  refine wl_det rfl rfl rfl (op_assign rfl) ?_
  refine wl_nil ?_
  refine st_tn ?_
  refine w_ret ?_
  refine st_tr ?_
  refine st_ret (vs := [_]) [] Try.results22 ⟨rfl, trivial⟩ rfl ?_
  refine ⟨_, rfl, ?_⟩
  exact ⟨rfl, rfl⟩

set_option maxHeartbeats 400000 in
set_option maxRecDepth 100000 in
theorem remove_no {σ : World} {F : List Res} (n : Bs) : FnT Try.prog σ F 17 [.pointer none, .string (str n)] [] (fun u ρ => u = .int .i64 1 ∧ ρ = []) := by
  refine fn_of 24 Try.func17 rfl Try.ntmps17 rfl ?_
  refine w_seq ?_
  refine w_region ?_
  refine wl_det rfl rfl rfl (op_assign rfl) ?_
  refine wl_nil ?_
  refine st_tn ?_
  refine w_seq ?_
  refine w_seq ?_
  refine w_region ?_
  refine wl_det rfl rfl rfl (op_move rfl) ?_
  refine wl_det rfl rfl rfl (op_move rfl) ?_
  refine wl_det rfl rfl rfl (op_fn Try.func37 rfl rfl rfl (find_no _)) ?_
  refine wl_det rfl rfl rfl (op_move rfl) ?_
  refine wl_det rfl rfl rfl (op_extract rfl rfl) ?_
  refine wl_det rfl rfl rfl (op_extract rfl rfl) ?_
  refine wl_op [] rfl rfl rfl rfl (op_alloc (l := 5) tN68p) ?_
  rintro _ _ ⟨b5, rfl, rfl⟩
  refine wl_op0 [5] rfl rfl rfl (op_store rfl rfl tZ68p (by rfl) (by rfl) (by exact Nat.le_of_ble_eq_true rfl)) ?_
  rintro _ _ ⟨rfl, rfl⟩
  refine wl_det rfl rfl rfl (op_assign rfl) ?_
  refine wl_nil ?_
  refine st_tn ?_
  refine w_seq ?_
  refine w_region ?_
  refine wl_det rfl rfl rfl (op_move rfl) ?_
  refine wl_det rfl rfl rfl (op_val (v' := .bool true) (by simp) (op_neq rfl rfl)) ?_
  refine wl_nil ?_
  refine st_tn ?_
  refine w_cond_t (rfl) ?_
  refine w_seq ?_
  refine w_region ?_
  refine wl_det rfl rfl rfl (op_move rfl) ?_
  refine wl_det rfl rfl rfl (op_assign rfl) ?_
  refine wl_nil ?_
  refine st_tn ?_
  refine w_ret ?_
  refine st_tr ?_
  refine st_ret (vs := [_]) [] Try.results17 ⟨rfl, trivial⟩ rfl ?_
  refine ⟨_, rfl, ?_⟩
  exact ⟨rfl, rfl⟩

set_option maxHeartbeats 400000 in
set_option maxRecDepth 100000 in
theorem read_no {σ : World} {F : List Res} (n : Bs) : FnT Try.prog σ F 28 [.pointer none, .string (str n)] [] (fun u ρ => u = .tuple #[.string (str []), .int .i64 1] ∧ ρ = []) := by
  refine fn_of 17 Try.func28 rfl Try.ntmps28 rfl ?_
  refine w_seq ?_
  refine w_region ?_
  refine wl_det rfl rfl rfl (op_assign rfl) ?_
  refine wl_det rfl rfl rfl (op_assign rfl) ?_
  refine wl_nil ?_
  refine st_tn ?_
  refine w_seq ?_
  refine w_region ?_
  refine wl_det rfl rfl rfl (op_move rfl) ?_
  refine wl_det rfl rfl rfl (op_move rfl) ?_
  refine wl_det rfl rfl rfl (op_fn Try.func37 rfl rfl rfl (find_no _)) ?_
  refine wl_det rfl rfl rfl (op_move rfl) ?_
  refine wl_det rfl rfl rfl (op_extract rfl rfl) ?_
  refine wl_det rfl rfl rfl (op_extract rfl rfl) ?_
  refine wl_op [] rfl rfl rfl rfl (op_alloc (l := 6) tN68p) ?_
  rintro _ _ ⟨b6, rfl, rfl⟩
  refine wl_op0 [6] rfl rfl rfl (op_store rfl rfl tZ68p (by rfl) (by rfl) (by exact Nat.le_of_ble_eq_true rfl)) ?_
  rintro _ _ ⟨rfl, rfl⟩
  refine wl_det rfl rfl rfl (op_assign rfl) ?_
  refine wl_nil ?_
  refine st_tn ?_
  refine w_seq ?_
  refine w_region ?_
  refine wl_det rfl rfl rfl (op_fieldAddr (off := 0) rfl tF68_0p) ?_
  refine wl_det rfl rfl rfl (op_load1 rfl tO9p (Ent.lab (l := 6) rfl (says_cel 0))) ?_
  refine wl_det rfl rfl rfl (op_move rfl) ?_
  refine wl_det rfl rfl rfl (op_assign rfl) ?_
  refine wl_det rfl rfl rfl (op_assign rfl) ?_
  refine wl_nil ?_
  refine st_tn ?_
  refine w_ret ?_
  refine st_ret (vs := [_, _]) [] Try.results28 ⟨rfl, ⟨rfl, trivial⟩⟩ rfl ?_
  refine ⟨_, rfl, ?_⟩
  exact ⟨rfl, rfl⟩

set_option maxHeartbeats 400000 in
set_option maxRecDepth 100000 in
theorem durable_no {σ : World} {F : List Res} (n : Bs) : FnT Try.prog σ F 33 [.pointer none, .string (str n)] [] (fun u ρ => u = .tuple #[.string (str []), .int .i64 1] ∧ ρ = []) := by
  refine fn_of 20 Try.func33 rfl Try.ntmps33 rfl ?_
  refine w_seq ?_
  refine w_region ?_
  refine wl_det rfl rfl rfl (op_assign rfl) ?_
  refine wl_det rfl rfl rfl (op_assign rfl) ?_
  refine wl_nil ?_
  refine st_tn ?_
  refine w_seq ?_
  refine w_region ?_
  refine wl_det rfl rfl rfl (op_move rfl) ?_
  refine wl_det rfl rfl rfl (op_move rfl) ?_
  refine wl_det rfl rfl rfl (op_fn Try.func37 rfl rfl rfl (find_no _)) ?_
  refine wl_det rfl rfl rfl (op_move rfl) ?_
  refine wl_det rfl rfl rfl (op_extract rfl rfl) ?_
  refine wl_det rfl rfl rfl (op_extract rfl rfl) ?_
  refine wl_op [] rfl rfl rfl rfl (op_alloc (l := 6) tN68p) ?_
  rintro _ _ ⟨b6, rfl, rfl⟩
  refine wl_op0 [6] rfl rfl rfl (op_store rfl rfl tZ68p (by rfl) (by rfl) (by exact Nat.le_of_ble_eq_true rfl)) ?_
  rintro _ _ ⟨rfl, rfl⟩
  refine wl_det rfl rfl rfl (op_assign rfl) ?_
  refine wl_nil ?_
  refine st_tn ?_
  refine w_seq ?_
  refine w_region ?_
  refine wl_det rfl rfl rfl (op_fieldAddr (off := 0) rfl tF68_0p) ?_
  refine wl_det rfl rfl rfl (op_load1 rfl tO9p (Ent.lab (l := 6) rfl (says_cel 0))) ?_
  refine wl_det rfl rfl rfl (op_fieldAddr (off := 1) rfl tF68_1p) ?_
  refine wl_det rfl rfl rfl (op_load1 rfl tO3p (Ent.lab (l := 6) rfl (says_cel 1))) ?_
  refine wl_det rfl rfl rfl (op_sliceRBs (hi := 0) rfl rfl Try.underlying9 (Nat.zero_le _)) ?_
  refine wl_det rfl rfl rfl (op_move rfl) ?_
  refine wl_det rfl rfl rfl (op_assign rfl) ?_
  refine wl_det rfl rfl rfl (op_assign rfl) ?_
  refine wl_nil ?_
  refine st_tn ?_
  refine w_ret ?_
  refine st_ret (vs := [_, _]) [] Try.results33 ⟨rfl, ⟨rfl, trivial⟩⟩ rfl ?_
  refine ⟨_, rfl, ?_⟩
  exact ⟨rfl, rfl⟩

set_option maxHeartbeats 400000 in
set_option maxRecDepth 100000 in
theorem list_no {σ : World} {F : List Res} : FnT Try.prog σ F 27 [.pointer none] [] (fun u ρ => u = .slice none 0 0 ∧ ρ = []) := by
  refine fn_of 12 Try.func27 rfl Try.ntmps27 rfl ?_
  refine w_seq ?_
  refine w_region ?_
  refine wl_det rfl rfl rfl (op_assign rfl) ?_
  refine wl_nil ?_
  refine st_tn ?_
  refine w_seq ?_
  refine w_seq ?_
  refine w_region ?_
  refine wl_det rfl rfl rfl (op_move rfl) ?_
  refine wl_det rfl rfl rfl (op_fn Try.func35 rfl rfl rfl (ready_no _)) ?_
  refine wl_det rfl rfl rfl (op_val (v' := .bool true) (by simp) (op_neq rfl rfl)) ?_
  refine wl_nil ?_
  refine st_tn ?_
  refine w_cond_t (rfl) ?_
  refine w_seq ?_
  refine w_region ?_
  refine wl_det rfl rfl rfl (op_assign rfl) ?_
  refine wl_nil ?_
  refine st_tn ?_
  refine w_ret ?_
  refine st_tr ?_
  refine st_ret (vs := [_]) [] Try.results27 ⟨rfl, trivial⟩ rfl ?_
  refine ⟨_, rfl, ?_⟩
  exact ⟨rfl, rfl⟩

set_option maxHeartbeats 400000 in
set_option maxRecDepth 100000 in
theorem used_no {σ : World} {F : List Res} : FnT Try.prog σ F 16 [.pointer none] [] (fun u ρ => u = .int .i64 0 ∧ ρ = []) := by
  refine fn_of 24 Try.func16 rfl Try.ntmps16 rfl ?_
  refine w_seq ?_
  refine w_region ?_
  refine wl_det rfl rfl rfl (op_assign rfl) ?_
  refine wl_nil ?_
  refine st_tn ?_
  refine w_seq ?_
  refine w_seq ?_
  refine w_region ?_
  refine wl_det rfl rfl rfl (op_move rfl) ?_
  refine wl_det rfl rfl rfl (op_fn Try.func35 rfl rfl rfl (ready_no _)) ?_
  refine wl_det rfl rfl rfl (op_val (v' := .bool true) (by simp) (op_neq rfl rfl)) ?_
  refine wl_nil ?_
  refine st_tn ?_
  refine w_cond_t (rfl) ?_
  refine w_seq ?_
  refine w_region ?_
  refine wl_det rfl rfl rfl (op_assign rfl) ?_
  refine wl_nil ?_
  refine st_tn ?_
  refine w_ret ?_
  refine st_tr ?_
  refine st_ret (vs := [_]) [] Try.results16 ⟨rfl, trivial⟩ rfl ?_
  refine ⟨_, rfl, ?_⟩
  exact ⟨rfl, rfl⟩

set_option maxHeartbeats 400000 in
set_option maxRecDepth 100000 in
theorem cap_no {σ : World} {F : List Res} : FnT Try.prog σ F 34 [.pointer none] [] (fun u ρ => u = .int .i64 0 ∧ ρ = []) := by
  refine fn_of 9 Try.func34 rfl Try.ntmps34 rfl ?_
  refine w_seq ?_
  refine w_region ?_
  refine wl_det rfl rfl rfl (op_assign rfl) ?_
  refine wl_nil ?_
  refine st_tn ?_
  refine w_seq ?_
  refine w_seq ?_
  refine w_region ?_
  refine wl_det rfl rfl rfl (op_move rfl) ?_
  refine wl_det rfl rfl rfl (op_val (v' := .bool true) (by simp) (op_eqPtr rfl Try.underlying22)) ?_
  refine wl_nil ?_
  refine st_tn ?_
  refine w_cond_t (rfl) ?_
  refine w_seq ?_
  refine w_region ?_
  refine wl_det rfl rfl rfl (op_assign rfl) ?_
  refine wl_nil ?_
  refine st_tn ?_
  refine w_ret ?_
  refine st_tr ?_
  refine st_ret (vs := [_]) [] Try.results34 ⟨rfl, trivial⟩ rfl ?_
  refine ⟨_, rfl, ?_⟩
  exact ⟨rfl, rfl⟩

set_option maxHeartbeats 400000 in
set_option maxRecDepth 100000 in
theorem down_no {σ : World} {F : List Res} : FnT Try.prog σ F 23 [.pointer none] [] (fun u ρ => u = .bool false ∧ ρ = []) := by
  refine fn_of 11 Try.func23 rfl Try.ntmps23 rfl ?_
  refine w_seq ?_
  refine w_region ?_
  refine wl_det rfl rfl rfl (op_assign rfl) ?_
  refine wl_nil ?_
  refine st_tn ?_
  refine w_seq ?_
  refine w_region ?_
  refine wl_det rfl rfl rfl (op_move rfl) ?_
  refine wl_det rfl rfl rfl (op_val (v' := .bool false) (by simp) (op_nePtr rfl Try.underlying22)) ?_
  refine wl_det rfl rfl rfl (op_move rfl) ?_
  refine wl_unwanted rfl rfl rfl rfl rfl rfl rfl rfl ?_
  refine wl_unwanted rfl rfl rfl rfl rfl rfl rfl rfl ?_
  refine wl_unwanted rfl rfl rfl rfl rfl rfl rfl rfl ?_
  refine wl_unwanted rfl rfl rfl rfl rfl rfl rfl rfl ?_
  refine wl_det rfl rfl rfl (op_pick_f rfl rfl) ?_
  refine wl_det rfl rfl rfl (op_assign rfl) ?_
  refine wl_nil ?_
  refine st_tn ?_
  refine w_ret ?_
  refine st_ret (vs := [_]) [] Try.results23 ⟨rfl, trivial⟩ rfl ?_
  refine ⟨_, rfl, ?_⟩
  exact ⟨rfl, rfl⟩

set_option maxHeartbeats 400000 in
set_option maxRecDepth 100000 in
theorem limit_no {σ : World} {F : List Res} (k : Int) : FnT Try.prog σ F 19 [.pointer none, .int .i64 k] [] (fun u ρ => u = .tuple #[] ∧ ρ = []) := by
  refine fn_of 14 Try.func19 rfl Try.ntmps19 rfl ?_
  refine w_seq ?_
  refine w_region ?_
  refine wl_det rfl rfl rfl (op_move rfl) ?_
  refine wl_det rfl rfl rfl (op_val (v' := .bool false) (by simp) (op_nePtr rfl Try.underlying22)) ?_
  refine wl_nil ?_
  refine st_tn ?_
  refine w_cond_f (rfl) ?_
  refine w_skip ?_
  refine st_end (vs := []) [] Try.results19 trivial rfl ?_
  refine ⟨_, rfl, ?_⟩
  exact ⟨rfl, rfl⟩

set_option maxHeartbeats 400000 in
set_option maxRecDepth 100000 in
theorem crash_no {σ : World} {F : List Res} : FnT Try.prog σ F 25 [.pointer none] [] (fun u ρ => u = .tuple #[] ∧ ρ = []) := by
  refine fn_of 7 Try.func25 rfl Try.ntmps25 rfl ?_
  refine w_seq ?_
  refine w_region ?_
  refine wl_det rfl rfl rfl (op_move rfl) ?_
  refine wl_det rfl rfl rfl (op_val (v' := .bool false) (by simp) (op_nePtr rfl Try.underlying22)) ?_
  refine wl_nil ?_
  refine st_tn ?_
  refine w_cond_f (rfl) ?_
  refine w_skip ?_
  refine st_end (vs := []) [] Try.results25 trivial rfl ?_
  refine ⟨_, rfl, ?_⟩
  exact ⟨rfl, rfl⟩

set_option maxHeartbeats 400000 in
set_option maxRecDepth 100000 in
theorem start_no {σ : World} {F : List Res} (v : Value) : FnT Try.prog σ F 26 [.pointer none, v] [] (fun u ρ => u = .tuple #[] ∧ ρ = []) := by
  refine fn_of 97 Try.func26 rfl Try.ntmps26 rfl ?_
  refine w_seq ?_
  refine w_seq ?_
  refine w_region ?_
  refine wl_det rfl rfl rfl (op_move rfl) ?_
  refine wl_det rfl rfl rfl (op_val (v' := .bool true) (by simp) (op_eqPtr rfl Try.underlying22)) ?_
  refine wl_det rfl rfl rfl (op_move rfl) ?_
  refine wl_unwanted rfl rfl rfl rfl rfl rfl rfl rfl ?_
  refine wl_unwanted rfl rfl rfl rfl rfl rfl rfl rfl ?_
  refine wl_unwanted rfl rfl rfl rfl rfl rfl rfl rfl ?_
  refine wl_unwanted rfl rfl rfl rfl rfl rfl rfl rfl ?_
  refine wl_unwanted rfl rfl rfl rfl rfl rfl rfl rfl ?_
  refine wl_det rfl rfl rfl (op_pick_t rfl rfl) ?_
  refine wl_nil ?_
  refine st_tn ?_
  refine w_cond_t (rfl) ?_
  refine w_ret ?_
  refine st_tr ?_
  refine st_ret (vs := []) [] Try.results26 trivial rfl ?_
  refine ⟨_, rfl, ?_⟩
  exact ⟨rfl, rfl⟩

set_option maxHeartbeats 400000 in
set_option maxRecDepth 100000 in
theorem clone_no {σ : World} {F : List Res} : FnT Try.prog σ F 29 [.pointer none] [] (fun u ρ => u = .pointer none ∧ ρ = []) := by
  refine fn_of 15 Try.func29 rfl Try.ntmps29 rfl ?_
  refine w_seq ?_
  refine w_region ?_
  refine wl_det rfl rfl rfl (op_assign rfl) ?_
  refine wl_nil ?_
  refine st_tn ?_
  refine w_seq ?_
  refine w_seq ?_
  refine w_region ?_
  refine wl_det rfl rfl rfl (op_move rfl) ?_
  refine wl_det rfl rfl rfl (op_val (v' := .bool true) (by simp) (op_eqPtr rfl Try.underlying22)) ?_
  refine wl_nil ?_
  refine st_tn ?_
  refine w_cond_t (rfl) ?_
  refine w_seq ?_
  refine w_region ?_
  refine wl_det rfl rfl rfl (op_assign rfl) ?_
  refine wl_nil ?_
  refine st_tn ?_
  refine w_ret ?_
  refine st_tr ?_
  refine st_ret (vs := [_]) [] Try.results29 ⟨rfl, trivial⟩ rfl ?_
  refine ⟨_, rfl, ?_⟩
  exact ⟨rfl, rfl⟩

set_option maxHeartbeats 400000 in
set_option maxRecDepth 100000 in
theorem equal_no {σ : World} {F : List Res} (a : Option Addr) : FnT Try.prog σ F 30 [.pointer none, .pointer a] [] (fun u ρ => u = .bool a.isNone ∧ ρ = []) := by
  refine fn_of 67 Try.func30 rfl Try.ntmps30 rfl ?_
  refine w_seq ?_
  refine w_region ?_
  refine wl_det rfl rfl rfl (op_assign rfl) ?_
  refine wl_nil ?_
  refine st_tn ?_
  refine w_seq ?_
  refine w_seq ?_
  refine w_region ?_
  refine wl_det rfl rfl rfl (op_move rfl) ?_
  refine wl_det rfl rfl rfl (op_val (v' := .bool true) (by simp) (op_eqPtr rfl Try.underlying22)) ?_
  refine wl_det rfl rfl rfl (op_move rfl) ?_
  refine wl_unwanted rfl rfl rfl rfl rfl rfl rfl rfl ?_
  refine wl_unwanted rfl rfl rfl rfl rfl rfl rfl rfl ?_
  refine wl_det rfl rfl rfl (op_pick_t rfl rfl) ?_
  refine wl_nil ?_
  refine st_tn ?_
  refine w_cond_t (rfl) ?_
  refine w_seq ?_
  refine w_region ?_
  refine wl_det rfl rfl rfl (op_move rfl) ?_
  refine wl_det rfl rfl rfl (op_move rfl) ?_
  refine wl_det rfl rfl rfl (op_eqPP rfl rfl Try.underlying22 (.inl rfl)) ?_
  refine wl_det rfl rfl rfl (op_assign rfl) ?_
  refine wl_nil ?_
  refine st_tn ?_
  refine w_ret ?_
  refine st_tr ?_
  refine st_ret (vs := [_]) [] Try.results30 ⟨rfl, trivial⟩ rfl ?_
  refine ⟨_, rfl, ?_⟩
  cases a <;> exact ⟨rfl, rfl⟩

set_option maxHeartbeats 400000 in
set_option maxRecDepth 100000 in
theorem equal_on {σ : World} {F : List Res} (a : Addr) : FnT Try.prog σ F 30 [.pointer (some a), .pointer none] [] (fun u ρ => u = .bool false ∧ ρ = []) := by
  refine fn_of 67 Try.func30 rfl Try.ntmps30 rfl ?_
  refine w_seq ?_
  refine w_region ?_
  refine wl_det rfl rfl rfl (op_assign rfl) ?_
  refine wl_nil ?_
  refine st_tn ?_
  refine w_seq ?_
  refine w_seq ?_
  refine w_region ?_
  refine wl_det rfl rfl rfl (op_move rfl) ?_
  refine wl_det rfl rfl rfl (op_val (v' := .bool false) (by simp) (op_eqPtr rfl Try.underlying22)) ?_
  refine wl_det rfl rfl rfl (op_move rfl) ?_
  refine wl_wanted_det rfl rfl rfl rfl rfl rfl rfl (op_move rfl) ?_
  refine wl_wanted_det rfl rfl rfl rfl rfl rfl rfl (op_val (v' := .bool true) (by simp) (op_eqPtr rfl Try.underlying22)) ?_
  refine wl_det rfl rfl rfl (op_pick_f rfl rfl) ?_
  refine wl_nil ?_
  refine st_tn ?_
  refine w_cond_t (rfl) ?_
  refine w_seq ?_
  refine w_region ?_
  refine wl_det rfl rfl rfl (op_move rfl) ?_
  refine wl_det rfl rfl rfl (op_move rfl) ?_
  refine wl_det rfl rfl rfl (op_eqPP rfl rfl Try.underlying22 (.inr rfl)) ?_
  refine wl_det rfl rfl rfl (op_assign rfl) ?_
  refine wl_nil ?_
  refine st_tn ?_
  refine w_ret ?_
  refine st_tr ?_
  refine st_ret (vs := [_]) [] Try.results30 ⟨rfl, trivial⟩ rfl ?_
  refine ⟨_, rfl, ?_⟩
  exact ⟨rfl, rfl⟩

-- CALL sleuth/sleuthlaw26.known known=true known_any
set_option maxHeartbeats 8000000 in
set_option maxRecDepth 100000 in
theorem lawNil_any {σ : World} {F : List Res} {ax : Option Addr} {c : Nat} {sc : List Int} (x y : Bs) : FnT Try.prog σ F 11 [.string (str x), .string (str y), .slice ax sc.length c] [] (fun u ρ => u = .bool true ∧ ρ = []) := by
  refine fn_of 135 Try.func11 rfl Try.ntmps11 rfl ?_
  refine w_seq ?_
  refine w_region ?_
  refine wl_det rfl rfl rfl (op_assign rfl) ?_
  refine wl_nil ?_
  refine st_tn ?_
  refine w_seq ?_
  refine w_seq ?_
  refine w_region ?_
  refine wl_det rfl rfl rfl (op_fn Try.func14 rfl rfl rfl (known_any)) ?_
  refine wl_det rfl rfl rfl (op_not_t rfl) ?_
  refine wl_det rfl rfl rfl (op_move rfl) ?_
  refine wl_wanted_det rfl rfl rfl rfl rfl rfl rfl (op_move rfl) ?_
  refine wl_wanted_det rfl rfl rfl rfl rfl rfl rfl (op_lenBs rfl Try.underlying9) ?_
  refine wl_wanted_det rfl rfl rfl rfl rfl rfl rfl (op_gtr rfl rfl) ?_
  refine wl_det rfl rfl rfl (op_pick_f rfl rfl) ?_
  refine wl_det rfl rfl rfl (op_move rfl) ?_
  refine wl_gsplit (t := 21) rfl (fun hg21 => ?_) (fun hg21 => ?_)
  · -- 21 is True
    refine wl_unwanted rfl rfl rfl rfl rfl rfl rfl rfl ?_
    refine wl_unwanted rfl rfl rfl rfl rfl rfl rfl rfl ?_
    refine wl_unwanted rfl rfl rfl rfl rfl rfl rfl rfl ?_
    refine wl_det rfl rfl rfl (op_pick_t rfl rfl) ?_
    refine wl_nil ?_
    refine st_tn ?_
    refine w_cond_t (rfl) ?_
    refine w_seq ?_
    refine w_region ?_
    refine wl_det rfl rfl rfl (op_fn Try.func14 rfl rfl rfl (known_any)) ?_
    refine wl_det rfl rfl rfl (op_assign rfl) ?_
    refine wl_nil ?_
    refine st_tn ?_
    refine w_ret ?_
    refine st_tr ?_
    refine st_ret (vs := [_]) [] Try.results11 ⟨rfl, trivial⟩ rfl ?_
    refine ⟨_, rfl, ?_⟩
    exact ⟨rfl, rfl⟩
  · -- 21 is False
    refine wl_wanted_det rfl rfl rfl rfl rfl rfl rfl (op_move rfl) ?_
    refine wl_wanted_det rfl rfl rfl rfl rfl rfl rfl (op_lenBs rfl Try.underlying9) ?_
    refine wl_wanted_det rfl rfl rfl rfl rfl rfl rfl (op_gtr rfl rfl) ?_
    refine wl_det rfl rfl rfl (op_pick_f rfl rfl) ?_
    refine wl_nil ?_
    refine st_tn ?_
    refine w_cond_d rfl (fun hc25 => ?_) (fun hc25 => ?_)
    · -- c25.t
      refine w_seq ?_
      refine w_region ?_
      refine wl_det rfl rfl rfl (op_fn Try.func14 rfl rfl rfl (known_any)) ?_
      refine wl_det rfl rfl rfl (op_assign rfl) ?_
      refine wl_nil ?_
      refine st_tn ?_
      refine w_ret ?_
      refine st_tr ?_
      refine st_ret (vs := [_]) [] Try.results11 ⟨rfl, trivial⟩ rfl ?_
      refine ⟨_, rfl, ?_⟩
      exact ⟨rfl, rfl⟩
    · -- c25.f
      refine w_skip ?_
      refine st_tn ?_
      refine w_seq ?_
      refine w_region ?_
      refine wl_det rfl rfl rfl (op_assign rfl) ?_
      refine wl_nil ?_
      refine st_tn ?_
      refine w_seq ?_
      refine w_region ?_
      refine wl_det rfl rfl rfl (op_move rfl) ?_
      refine wl_det rfl rfl rfl (op_fn Try.func19 rfl rfl rfl (limit_no _)) ?_
      refine wl_nil ?_
      refine st_tn ?_
      refine w_seq ?_
      refine w_region ?_
      refine wl_det rfl rfl rfl (op_move rfl) ?_
      refine wl_det rfl rfl rfl (op_fn Try.func25 rfl rfl rfl crash_no) ?_
      refine wl_nil ?_
      refine st_tn ?_
      refine w_seq ?_
      refine w_region ?_
      refine wl_det rfl rfl rfl (op_move rfl) ?_
      refine wl_det rfl rfl rfl (op_move rfl) ?_
      refine wl_det rfl rfl rfl (op_fn Try.func26 rfl rfl rfl (start_no _)) ?_
      refine wl_nil ?_
      refine st_tn ?_
      refine w_seq ?_
      refine w_region ?_
      refine wl_det rfl rfl rfl (op_move rfl) ?_
      refine wl_det rfl rfl rfl (op_move rfl) ?_
      refine wl_det rfl rfl rfl (op_fn Try.func28 rfl rfl rfl (read_no _)) ?_
      refine wl_det rfl rfl rfl (op_move rfl) ?_
      refine wl_det rfl rfl rfl (op_extract rfl rfl) ?_
      refine wl_det rfl rfl rfl (op_extract rfl rfl) ?_
      refine wl_det rfl rfl rfl (op_assign rfl) ?_
      refine wl_det rfl rfl rfl (op_assign rfl) ?_
      refine wl_nil ?_
      refine st_tn ?_
      refine w_seq ?_
      refine w_region ?_
      refine wl_det rfl rfl rfl (op_move rfl) ?_
      refine wl_det rfl rfl rfl (op_move rfl) ?_
      refine wl_det rfl rfl rfl (op_fn Try.func33 rfl rfl rfl (durable_no _)) ?_
      refine wl_det rfl rfl rfl (op_move rfl) ?_
      refine wl_det rfl rfl rfl (op_extract rfl rfl) ?_
      refine wl_det rfl rfl rfl (op_extract rfl rfl) ?_
      refine wl_det rfl rfl rfl (op_assign rfl) ?_
      refine wl_det rfl rfl rfl (op_assign rfl) ?_
      refine wl_nil ?_
      refine st_tn ?_
      refine w_seq ?_
      refine w_region ?_
      refine wl_op [] rfl rfl rfl rfl (op_fn Try.func12 rfl rfl rfl (new_ok 1 601 602 (by decide))) ?_
      rintro _ _ ⟨b47, m47, rfl, rfl⟩
      refine wl_det rfl rfl rfl (op_move rfl) ?_
      refine wl_det rfl rfl rfl (op_extract rfl rfl) ?_
      refine wl_det rfl rfl rfl (op_extract rfl rfl) ?_
      refine wl_det rfl rfl rfl (op_assign rfl) ?_
      refine wl_det rfl rfl rfl (op_assign rfl) ?_
      refine wl_nil ?_
      refine st_tn ?_
      refine w_seq ?_
      refine w_region ?_
      refine wl_det rfl rfl rfl (op_move rfl) ?_
      refine wl_det rfl rfl rfl (op_val (v' := .bool true) (by simp [str]) (op_eqBs rfl rfl)) ?_
      refine wl_det rfl rfl rfl (op_move rfl) ?_
      refine wl_wanted_det rfl rfl rfl rfl rfl rfl rfl (op_move rfl) ?_
      refine wl_wanted_det rfl rfl rfl rfl rfl rfl rfl (op_val (v' := .bool true) (by simp) (op_eql rfl rfl)) ?_
      refine wl_det rfl rfl rfl (op_pick_t rfl rfl) ?_
      refine wl_det rfl rfl rfl (op_move rfl) ?_
      refine wl_wanted_det rfl rfl rfl rfl rfl rfl rfl (op_move rfl) ?_
      refine wl_wanted_det rfl rfl rfl rfl rfl rfl rfl (op_val (v' := .bool true) (by simp [str]) (op_eqBs rfl rfl)) ?_
      refine wl_det rfl rfl rfl (op_pick_t rfl rfl) ?_
      refine wl_det rfl rfl rfl (op_move rfl) ?_
      refine wl_wanted_det rfl rfl rfl rfl rfl rfl rfl (op_move rfl) ?_
      refine wl_wanted_det rfl rfl rfl rfl rfl rfl rfl (op_val (v' := .bool true) (by simp) (op_eql rfl rfl)) ?_
      refine wl_det rfl rfl rfl (op_pick_t rfl rfl) ?_
      refine wl_det rfl rfl rfl (op_move rfl) ?_
      refine wl_wanted_det rfl rfl rfl rfl rfl rfl rfl (op_move rfl) ?_
      refine wl_wanted_det rfl rfl rfl rfl rfl rfl rfl (op_move rfl) ?_
      refine wl_wanted_det rfl rfl rfl rfl rfl rfl rfl (op_move rfl) ?_
      refine wl_wanted_det rfl rfl rfl rfl rfl rfl rfl (op_fn Try.func15 rfl rfl rfl (append_no _ _)) ?_
      refine wl_wanted_det rfl rfl rfl rfl rfl rfl rfl (op_val (v' := .bool true) (by simp) (op_eql rfl rfl)) ?_
      refine wl_det rfl rfl rfl (op_pick_t rfl rfl) ?_
      refine wl_det rfl rfl rfl (op_move rfl) ?_
      refine wl_wanted_det rfl rfl rfl rfl rfl rfl rfl (op_move rfl) ?_
      refine wl_wanted_det rfl rfl rfl rfl rfl rfl rfl (op_move rfl) ?_
      refine wl_wanted_det rfl rfl rfl rfl rfl rfl rfl (op_fn Try.func21 rfl rfl rfl (sync_no _)) ?_
      refine wl_wanted_det rfl rfl rfl rfl rfl rfl rfl (op_val (v' := .bool true) (by simp) (op_eql rfl rfl)) ?_
      refine wl_det rfl rfl rfl (op_pick_t rfl rfl) ?_
      refine wl_det rfl rfl rfl (op_move rfl) ?_
      refine wl_wanted_det rfl rfl rfl rfl rfl rfl rfl (op_move rfl) ?_
      refine wl_wanted_det rfl rfl rfl rfl rfl rfl rfl (op_move rfl) ?_
      refine wl_wanted_det rfl rfl rfl rfl rfl rfl rfl (op_move rfl) ?_
      refine wl_wanted_det rfl rfl rfl rfl rfl rfl rfl (op_fn Try.func22 rfl rfl rfl (rename_no _ _)) ?_
      refine wl_wanted_det rfl rfl rfl rfl rfl rfl rfl (op_val (v' := .bool true) (by simp) (op_eql rfl rfl)) ?_
      refine wl_det rfl rfl rfl (op_pick_t rfl rfl) ?_
      refine wl_det rfl rfl rfl (op_move rfl) ?_
      refine wl_wanted_det rfl rfl rfl rfl rfl rfl rfl (op_move rfl) ?_
      refine wl_wanted_det rfl rfl rfl rfl rfl rfl rfl (op_move rfl) ?_
      refine wl_wanted_det rfl rfl rfl rfl rfl rfl rfl (op_fn Try.func17 rfl rfl rfl (remove_no _)) ?_
      refine wl_wanted_det rfl rfl rfl rfl rfl rfl rfl (op_val (v' := .bool true) (by simp) (op_eql rfl rfl)) ?_
      refine wl_det rfl rfl rfl (op_pick_t rfl rfl) ?_
      refine wl_det rfl rfl rfl (op_move rfl) ?_
      refine wl_wanted_det rfl rfl rfl rfl rfl rfl rfl (op_move rfl) ?_
      refine wl_wanted_det rfl rfl rfl rfl rfl rfl rfl (op_fn Try.func27 rfl rfl rfl list_no) ?_
      refine wl_wanted_det rfl rfl rfl rfl rfl rfl rfl (op_lenT rfl tS48p (Sl.ent (Sl.nilv (enc := encT)))) ?_
      refine wl_wanted_det rfl rfl rfl rfl rfl rfl rfl (op_val (v' := .bool true) (by simp) (op_eql rfl rfl)) ?_
      refine wl_det rfl rfl rfl (op_pick_t rfl rfl) ?_
      refine wl_det rfl rfl rfl (op_move rfl) ?_
      refine wl_wanted_det rfl rfl rfl rfl rfl rfl rfl (op_move rfl) ?_
      refine wl_wanted_det rfl rfl rfl rfl rfl rfl rfl (op_fn Try.func16 rfl rfl rfl used_no) ?_
      refine wl_wanted_det rfl rfl rfl rfl rfl rfl rfl (op_val (v' := .bool true) (by simp) (op_eql rfl rfl)) ?_
      refine wl_det rfl rfl rfl (op_pick_t rfl rfl) ?_
      refine wl_det rfl rfl rfl (op_move rfl) ?_
      refine wl_wanted_det rfl rfl rfl rfl rfl rfl rfl (op_move rfl) ?_
      refine wl_wanted_det rfl rfl rfl rfl rfl rfl rfl (op_fn Try.func34 rfl rfl rfl cap_no) ?_
      refine wl_wanted_det rfl rfl rfl rfl rfl rfl rfl (op_val (v' := .bool true) (by simp) (op_eql rfl rfl)) ?_
      refine wl_det rfl rfl rfl (op_pick_t rfl rfl) ?_
      refine wl_det rfl rfl rfl (op_move rfl) ?_
      refine wl_wanted_det rfl rfl rfl rfl rfl rfl rfl (op_move rfl) ?_
      refine wl_wanted_det rfl rfl rfl rfl rfl rfl rfl (op_fn Try.func23 rfl rfl rfl down_no) ?_
      refine wl_wanted_det rfl rfl rfl rfl rfl rfl rfl (op_not_f rfl) ?_
      refine wl_det rfl rfl rfl (op_pick_t rfl rfl) ?_
      refine wl_det rfl rfl rfl (op_move rfl) ?_
      refine wl_wanted_det rfl rfl rfl rfl rfl rfl rfl (op_move rfl) ?_
      refine wl_wanted_det rfl rfl rfl rfl rfl rfl rfl (op_fn Try.func29 rfl rfl rfl clone_no) ?_
      refine wl_wanted_det rfl rfl rfl rfl rfl rfl rfl (op_val (v' := .bool true) (by simp) (op_eqPtr rfl Try.underlying22)) ?_
      refine wl_det rfl rfl rfl (op_pick_t rfl rfl) ?_
      refine wl_det rfl rfl rfl (op_move rfl) ?_
      refine wl_wanted_det rfl rfl rfl rfl rfl rfl rfl (op_move rfl) ?_
      refine wl_wanted_det rfl rfl rfl rfl rfl rfl rfl (op_fn Try.func30 rfl rfl rfl (equal_no none)) ?_
      refine wl_det rfl rfl rfl (op_pick_t rfl rfl) ?_
      refine wl_det rfl rfl rfl (op_move rfl) ?_
      refine wl_wanted_det rfl rfl rfl rfl rfl rfl rfl (op_move rfl) ?_
      refine wl_wanted_det rfl rfl rfl rfl rfl rfl rfl (op_val (v' := .bool true) (by simp) (op_eql rfl rfl)) ?_
      refine wl_det rfl rfl rfl (op_pick_t rfl rfl) ?_
      refine wl_det rfl rfl rfl (op_move rfl) ?_
      refine wl_wanted_det rfl rfl rfl rfl rfl rfl rfl (op_move rfl) ?_
      refine wl_wanted_det rfl rfl rfl rfl rfl rfl rfl (op_move rfl) ?_
      refine wl_wanted_det rfl rfl rfl rfl rfl rfl rfl (op_fn Try.func30 rfl rfl rfl (equal_no (some ⟨b47, 0, none⟩))) ?_
      refine wl_wanted_det rfl rfl rfl rfl rfl rfl rfl (op_not_f rfl) ?_
      refine wl_det rfl rfl rfl (op_pick_t rfl rfl) ?_
      refine wl_det rfl rfl rfl (op_move rfl) ?_
      refine wl_wanted_det rfl rfl rfl rfl rfl rfl rfl (op_move rfl) ?_
      refine wl_wanted_det rfl rfl rfl rfl rfl rfl rfl (op_fn Try.func30 rfl rfl rfl (equal_on ⟨b47, 0, none⟩)) ?_
      refine wl_wanted_det rfl rfl rfl rfl rfl rfl rfl (op_not_f rfl) ?_
      refine wl_det rfl rfl rfl (op_pick_t rfl rfl) ?_
      refine wl_det rfl rfl rfl (op_assign rfl) ?_
      refine wl_nil ?_
      refine st_tn ?_
      refine w_ret ?_
      refine st_ret (vs := [_]) [] Try.results11 ⟨rfl, trivial⟩ rfl ?_
      refine ⟨_, rfl, ?_⟩
      exact ⟨rfl, rfl⟩

theorem lawNil_ba {σ : World} {F : List Res} {ax : Option Addr} {c : Nat} {sc : List Int} (s t : ByteArray) : FnT Try.prog σ F 11 [.string s, .string t, .slice ax sc.length c] [] (fun u ρ => u = .bool true ∧ ρ = []) := by
  have := lawNil_any (σ := σ) (F := F) (ax := ax) (c := c) (sc := sc) s.data.toList t.data.toList
  rwa [str_self, str_self] at this
end Go.Proofs.Ytjlbeakdgadpmaa
