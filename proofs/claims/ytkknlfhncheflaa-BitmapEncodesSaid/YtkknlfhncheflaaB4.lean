/- Contracts of the package bitmap: rows, selection, membership, equality, ranges. Conditions: none. -/
import Derived.Test.YtkknlfhncheflaaB3
namespace Go.Proofs.Ytkknlfhncheflaa
open Go Go.SL Go.RowKit Go.BitM
set_option linter.unusedVariables false
set_option linter.unusedSimpArgs false
theorem tA58d : aggB Try.prog 58 2 = true := by kernel_rfl
theorem tF26_0d : fieldB Try.prog 26 0 0 = true := by kernel_rfl
theorem tF58_0d : fieldB Try.prog 58 0 0 = true := by kernel_rfl
theorem tF58_1d : fieldB Try.prog 58 1 1 = true := by kernel_rfl
theorem tL22_1d : zerosB Try.prog 22 3 1 1 = some [Value.int .i64 0] := by kernel_rfl
theorem tN58d : (Try.prog.info? 58).bind (·.zero) = some (Value.agg #[Value.int .i64 0, Value.int .i64 0]) := by kernel_rfl
theorem tO24d : oneB Try.prog 24 = true := by kernel_rfl
theorem tO3d : oneB Try.prog 3 = true := by kernel_rfl
theorem tP22d : appB Try.prog 22 3 1 8 = true := by kernel_rfl
theorem tS24d : sliceB Try.prog 24 58 2 = true := by kernel_rfl
theorem tZ58d : (Try.prog.info? 58).map (·.size) = some 2 := by kernel_rfl

theorem rows_take_le {rl : List Run} (i : Nat) : (rows (rl.take i)).length ≤ (rows rl).length := by
  have : rows rl = rows (rl.take i) ++ rows (rl.drop i) := by rw [← rows_append, List.take_append_drop]
  rw [this, List.length_append]; omega
theorem rows_snoc (rl : List Run) (r : Run) : rows (rl ++ [r]) = rows rl ++ upto r.1 r.2 := by simp [rows]
set_option maxHeartbeats 400000 in
set_option maxRecDepth 100000 in
theorem rows_any {σ : World} {F : List Res} {a : Option Addr} {c : Nat} {rl : List Run} (lab : Nat) (h : Sl σ F encRun 2 (.slice a rl.length c) rl) (hl : rl.length ≤ 1099511627776) (hb : inB 0 1048576 rl) (hn : (rows rl).length ≤ 1099511627776) :
    FnT Try.prog σ F 53 [bm a rl.length c] [] (fun u ρ => ∃ a' c', u = .slice a' (rows rl).length c' ∧ ρ = [(lab, slW 3 encZ 1 u (rows rl))]) := by
  refine fn_of 28 Try.func53 rfl Try.ntmps53 rfl ?_
  refine w_seq ?_
  refine w_region ?_
  refine wl_op [] rfl rfl rfl rfl (op_box (T := 26) (l := 1) rfl) ?_
  rintro _ _ ⟨b1, rfl, rfl⟩
  refine wl_det rfl rfl rfl (op_assign rfl) ?_
  refine wl_nil ?_
  refine st_tn ?_
  refine w_seq ?_
  refine w_region ?_
  refine wl_det rfl rfl rfl (op_assign rfl) ?_
  refine wl_nil ?_
  refine st_tn ?_
  refine w_seq ?_
  refine w_seq ?_
  refine w_region ?_
  refine wl_det rfl rfl rfl (op_fieldAddr (off := 0) rfl tF26_0d) ?_
  refine wl_det rfl rfl rfl (op_load1 rfl tO24d (Ent.lab (l := 1) rfl (says_cel 0))) ?_
  refine wl_det rfl rfl rfl (op_lenT rfl tS24d (Sl.ent (by first | exact Sl.app (by assumption) _ | exact Sl.app (Sl.app (by assumption) _) _))) ?_
  refine wl_det rfl rfl rfl (op_move rfl) ?_
  refine wl_nil ?_
  refine st_tn ?_
  refine w_block ?_
  refine w_emp 3 (slO_nil 3 1) ?_
  refine w_loop (X := Nat × Option Addr × Nat) (fun z => z.1 ≤ rl.length) (fun z => [(3, .slice z.2.1 (rows (rl.take z.1)).length z.2.2), (8, .slice a rl.length c), (9, .int .i64 rl.length), (10, .int .i64 z.1)]) (fun z => [(3, slW 3 encZ 1 (.slice z.2.1 (rows (rl.take z.1)).length z.2.2) (rows (rl.take z.1)))]) (fun z => rl.length - z.1) ((0, none, 0)) (Nat.zero_le _) (.cons rfl (.cons rfl (.cons rfl (.cons rfl (.nil _))))) ⟨[3], _, _, rfl, rfl⟩ ?_
  rintro ⟨i, a3, c3⟩ hi
  dsimp only at hi ⊢
  refine w_seq ?_
  refine w_region ?_
  refine wl_det rfl rfl rfl (op_lss rfl rfl) ?_
  refine wl_nil ?_
  refine st_tn ?_
  refine w_seq ?_
  refine w_cond_d rfl (fun hc11 => ?_) (fun hc11 => ?_)
  · -- c11.t
    obtain ⟨r, hr⟩ := getE (l := rl) (i := i) (by omega)
    have hlt := ltE hr
    have hbr := hb r (List.mem_of_getElem? hr)
    have hts : rows (rl.take (i + 1)) = rows (rl.take i) ++ upto r.1 r.2 := by rw [take_snoc hr, rows_snoc]
    have hlen := rows_take_le (rl := rl) (i + 1)
    rw [hts, List.length_append, length_upto] at hlen
    refine w_skip ?_
    refine st_tn ?_
    refine w_seq ?_
    refine w_block ?_
    refine w_seq ?_
    refine w_region ?_
    refine wl_det rfl rfl rfl (op_idx rfl rfl tS24d (Sl.ent (by first | exact Sl.app (by assumption) _ | exact Sl.app (Sl.app (by assumption) _) _)) (by omega)) ?_
    refine wl_det rfl rfl rfl (op_ldxA rfl tA58d (by first | exact Sl.app (by assumption) _ | exact Sl.app (Sl.app (by assumption) _) _) (by assumption) (by rfl) (by rfl)) ?_
    refine wl_op [] rfl rfl rfl rfl (op_alloc (l := 5) tN58d) ?_
    rintro _ _ ⟨b5, rfl, rfl⟩
    refine wl_op0 [5] rfl rfl rfl (op_store rfl rfl tZ58d (by rfl) (by rfl) (by exact Nat.le_of_ble_eq_true rfl)) ?_
    rintro _ _ ⟨rfl, rfl⟩
    refine wl_nil ?_
    refine st_tn ?_
    refine w_seq ?_
    refine w_region ?_
    refine wl_det rfl rfl rfl (op_fieldAddr (off := 0) rfl tF58_0d) ?_
    refine wl_det rfl rfl rfl (op_load1 rfl tO3d (Ent.lab (l := 5) rfl (says_cel 0))) ?_
    refine wl_det rfl rfl rfl (op_assign rfl) ?_
    refine wl_nil ?_
    refine st_tn ?_
    refine w_block ?_
    have hu0 : rows (rl.take i) ++ upto r.1 (r.1 - 1) = rows (rl.take i) := by rw [upto_empty (by omega)]; simp
    refine w_loop (X := Int × Option Addr × Nat) (fun z => r.1 ≤ z.1 ∧ z.1 ≤ r.2 + 1) (fun z => [(3, .slice z.2.1 (rows (rl.take i) ++ upto r.1 (z.1 - 1)).length z.2.2), (8, .slice a rl.length c), (9, .int .i64 rl.length), (10, .int .i64 i), (6, .int .i64 z.1), (5, .pointer (some ⟨b5, 0, none⟩))]) (fun z => [(3, slW 3 encZ 1 (.slice z.2.1 (rows (rl.take i) ++ upto r.1 (z.1 - 1)).length z.2.2) (rows (rl.take i) ++ upto r.1 (z.1 - 1))), (5, cel b5 [.int .i64 r.1, .int .i64 r.2] 58)]) (fun z => (r.2 + 1 - z.1).toNat) ((r.1, a3, c3)) (⟨Int.le_refl _, by show r.1 ≤ r.2 + 1; omega⟩) (.cons (by rw [hu0]; rfl) (.cons rfl (.cons rfl (.cons rfl (.cons rfl (.cons rfl (.nil _))))))) ⟨[3, 5], _, _, rfl, by rw [hu0]; rfl⟩ ?_
    rintro ⟨n, a4, c4⟩ ⟨hn1, hn2⟩
    dsimp only at hn1 hn2 ⊢
    refine w_seq ?_
    refine w_seq ?_
    refine w_region ?_
    refine wl_det rfl rfl rfl (op_move rfl) ?_
    refine wl_det rfl rfl rfl (op_fieldAddr (off := 1) rfl tF58_1d) ?_
    refine wl_det rfl rfl rfl (op_load1 rfl tO3d (Ent.lab (l := 5) rfl (says_cel 1))) ?_
    refine wl_det rfl rfl rfl (op_leq rfl rfl) ?_
    refine wl_nil ?_
    refine st_tn ?_
    refine w_cond_d rfl (fun hc19 => ?_) (fun hc19 => ?_)
    · -- c19.t
      have hnx : rows (rl.take i) ++ upto r.1 (n + 1 - 1) = (rows (rl.take i) ++ upto r.1 (n - 1)) ++ [n] := by
        have := upto_snoc (a := r.1) (b := n - 1) (by omega)
        rw [show n - 1 + 1 = n by omega] at this
        rw [show n + 1 - 1 = n by omega, this]; simp
      have hlu := length_upto r.1 (n - 1)
      refine w_skip ?_
      refine st_tn ?_
      refine w_seq ?_
      refine w_block ?_
      refine w_region ?_
      refine wl_det rfl rfl rfl (op_move rfl) ?_
      refine wl_det rfl rfl rfl (op_move rfl) ?_
      refine wl_op [] rfl rfl rfl rfl (op_buildSlice (enc := SL.encZ) (l := [_]) (lab := 24) tL22_1d rfl rfl (fun _ => rfl) rfl) ?_
      rintro _ _ ⟨a24, c24, rfl, rfl⟩
      refine wl_op [3] rfl rfl rfl rfl (op_append (lab := 3) (lab' := 25) rfl rfl tP22d SL.enc1Z (Sl.lab 24 rfl (by simp [maxLen])) (by simp; omega) (by simp; omega)) ?_
      rintro _ _ ⟨a25, c25, rfl, rfl⟩
      refine wl_det rfl rfl rfl (op_assign rfl) ?_
      refine wl_nil ?_
      refine st_bn ?_
      refine st_tn ?_
      refine w_region ?_
      refine wl_det rfl rfl rfl (op_move rfl) ?_
      refine wl_det rfl rfl rfl (op_add' rfl rfl (by omega)) ?_
      refine wl_det rfl rfl rfl (op_assign rfl) ?_
      refine wl_nil ?_
      refine st_round (x := (n, a4, c4)) ((n + 1, a25, c25)) [25, 5] (⟨by show r.1 ≤ n + 1; omega, by show n + 1 ≤ r.2 + 1; omega⟩) (by show (r.2 + 1 - (n + 1)).toNat < (r.2 + 1 - n).toNat; omega) (.cons (by rw [hnx]; rfl) (.cons rfl (.cons rfl (.cons rfl (.cons rfl (.cons rfl (.nil _))))))) rfl (by rw [hnx]; rfl) 
    · -- c19.f
      have hend : rows (rl.take (i + 1)) = rows (rl.take i) ++ upto r.1 (n - 1) := by rw [hts, show n - 1 = r.2 by omega]
      refine w_exit ?_
      refine st_te ?_
      refine st_te ?_
      refine st_be ?_
      refine st_bn ?_
      refine st_tn ?_
      refine w_region ?_
      refine wl_det rfl rfl rfl (op_add' rfl rfl (by omega)) ?_
      refine wl_det rfl rfl rfl (op_move rfl) ?_
      refine wl_nil ?_
      refine st_round (x := (i, a3, c3)) ((i + 1, a4, c4)) [3] (by show i + 1 ≤ _; omega) (by show rl.length - (i + 1) < rl.length - i; omega) (.cons (by rw [hend]; rfl) (.cons rfl (.cons rfl (.cons rfl (.nil _))))) rfl (by rw [hend]) 
  · -- c11.f
    refine w_exit ?_
    refine st_te ?_
    refine st_te ?_
    refine st_be ?_
    refine st_tn ?_
    refine w_seq ?_
    refine w_region ?_
    refine wl_det rfl rfl rfl (op_move rfl) ?_
    refine wl_det rfl rfl rfl (op_assign rfl) ?_
    refine wl_nil ?_
    refine st_tn ?_
    refine w_ret ?_
    refine st_ret (vs := [_]) [3] Try.results53 ⟨rfl, trivial⟩ rfl ?_
    refine ⟨[(lab, _)], rfl, ?_⟩
    rw [take_all (by omega)]; exact ⟨_, _, rfl, rfl⟩

end Go.Proofs.Ytkknlfhncheflaa
