/- Contracts: the model of layer 27: commit. Contracts: slices.Delete of the first segment. Contracts: Truncate of a log. Contracts: the model of layer 27: its states in pools; do. Contracts: do (layer 27's model): Discard, Open, Commit. Contracts: do (layer 27's model): Commit, Truncate. Contracts: agrees (layer 27's model). A log on a disk that does not fail, operation for operation (layer 27). do, whatever the operation, on a disk that does not fail; the law Runs (layer 27). The law Crashes (layer 27): a disk that fails and starts again. A log on a disk that may fail (layer 27): Commit and Truncate up to a failure, the start behind it. Conditions: none. -/
import Derived.Test.YtcbigmgakdanjaaSlZ
import Derived.Test.YtcbigmgakdanjaaQGb
import Derived.Test.YtcbigmgakdanjaaSlL
namespace Go.Proofs.Ytcbigmgakdanjaa
open Go Go.SL Go.RowKit Go.RdM Go.WalM
set_option linter.unusedVariables false
set_option linter.unusedSimpArgs false
theorem tA52xb : aggB Try.prog 52 4 = true := by kernel_rfl
theorem tA96xb : aggB Try.prog 96 3 = true := by kernel_rfl
theorem tB96xb : placesB Try.prog 96 = some ([(0, 1), (1, 1), (2, 1)], [Value.int .i64 0, Value.int .i64 0, Value.slice none 0 0]) := by kernel_rfl
theorem tF52_0xb : fieldB Try.prog 52 0 0 = true := by kernel_rfl
theorem tF52_2xb : fieldB Try.prog 52 2 2 = true := by kernel_rfl
theorem tF52_3xb : fieldB Try.prog 52 3 3 = true := by kernel_rfl
theorem tF96_0xb : fieldB Try.prog 96 0 0 = true := by kernel_rfl
theorem tF96_1xb : fieldB Try.prog 96 1 1 = true := by kernel_rfl
theorem tF96_2xb : fieldB Try.prog 96 2 2 = true := by kernel_rfl
theorem tL50_1xb : zerosB Try.prog 50 96 3 1 = some [Value.int .i64 0, Value.int .i64 0, Value.slice none 0 0] := by kernel_rfl
theorem tMixxb : Try.prog.follows .mixedOrders = true := by kernel_rfl
theorem tN52xb : (Try.prog.info? 52).bind (·.zero) = some (Value.agg #[Value.slice none 0 0, Value.int .i64 0, Value.slice none 0 0, Value.bool false]) := by kernel_rfl
theorem tN96xb : (Try.prog.info? 96).bind (·.zero) = some (Value.agg #[Value.int .i64 0, Value.int .i64 0, Value.slice none 0 0]) := by kernel_rfl
theorem tO3xb : oneB Try.prog 3 = true := by kernel_rfl
theorem tO35xb : oneB Try.prog 35 = true := by kernel_rfl
theorem tO4xb : oneB Try.prog 4 = true := by kernel_rfl
theorem tO50xb : oneB Try.prog 50 = true := by kernel_rfl
theorem tP35xb : appB Try.prog 35 9 1 16 = true := by kernel_rfl
theorem tP50xb : appB Try.prog 50 96 3 40 = true := by kernel_rfl
theorem tS35xb : sliceB Try.prog 35 9 1 = true := by kernel_rfl
theorem tS50xb : sliceB Try.prog 50 96 3 = true := by kernel_rfl
theorem tZ3xb : (Try.prog.info? 3).map (·.size) = some 1 := by kernel_rfl
theorem tZ35xb : (Try.prog.info? 35).map (·.size) = some 1 := by kernel_rfl
theorem tZ4xb : (Try.prog.info? 4).map (·.size) = some 1 := by kernel_rfl
theorem tZ50xb : (Try.prog.info? 50).map (·.size) = some 1 := by kernel_rfl
theorem tZ52xb : (Try.prog.info? 52).map (·.size) = some 4 := by kernel_rfl
theorem tZ96xb : (Try.prog.info? 96).map (·.size) = some 3 := by kernel_rfl
set_option maxHeartbeats 400000 in
set_option maxRecDepth 100000 in
theorem mcommit_nil {σ : World} {F : List Res} {a p : Option Addr} {c cp m : Nat} {f : Int} {o : Bool} {pend : List RdM.Bs} (hP : Sl σ F encT 1 (.slice p pend.length cp) pend) (h0 : pend.length = 0) :
    FnT Try.prog σ F 56 [.agg #[.slice a m c, .int .i64 f, .slice p pend.length cp, .bool o]] [] (fun u ρ => u = .agg #[.slice a m c, .int .i64 f, .slice p pend.length cp, .bool o] ∧ ρ = []) := by
  refine fn_of 80 Try.func56 rfl Try.ntmps56 rfl ?_
  refine w_seq (w_region (wl_op [] rfl rfl rfl rfl (op_box (T := 52) (l := 1) rfl) ?_))
  rintro _ _ ⟨b1, rfl, rfl⟩
  refine wl_op [] rfl rfl rfl rfl (op_alloc (l := 2) tN52xb) ?_
  rintro _ _ ⟨b2, rfl, rfl⟩
  refine wl_nil (st_tn (w_seq (w_seq (w_region (zd rfl (op_fieldAddr (off := 2) rfl tF52_2xb) (zd rfl (op_load1 rfl tO35xb (Ent.lab (l := 1) rfl (says_cel 2))) (zd rfl (op_lenT rfl tS35xb (Sl.ent (by first | exact Sl.app (by assumption) _ | exact Sl.app (Sl.app (by assumption) _) _))) ?_)))))))
  refine zd rfl (op_val (v' := .bool true) (by rw [decide_eq_true (by omega)]) (op_eql rfl rfl)) ?_
  refine wl_nil (st_tn (w_cond_t (rfl) ?_))
  refine w_seq (w_region (zd rfl (op_loadA rfl tA52xb (Ent.lab (l := 1) rfl (says_cel 0)) (Nat.le_of_ble_eq_true rfl)) (wl_op0 [2] rfl rfl rfl (op_store rfl rfl tZ52xb (by rfl) (by rfl) (by exact Nat.le_of_ble_eq_true rfl)) ?_)))
  rintro _ _ ⟨rfl, rfl⟩
  refine wl_nil (st_tn (w_ret (st_tr (st_ret (vs := [_]) [] Try.results56 ⟨⟨_, rfl, Ent.mono (Ent.lab (l := 2) rfl (says_cel 0)) (fun _ h => run_load_agg tA52xb h (Nat.le_of_ble_eq_true rfl))⟩, trivial⟩ rfl ?_))))
  refine ⟨_, rfl, ?_⟩
  exact ⟨rfl, rfl⟩
def noteX (Y : List SegV) (o : Bool) (pend : List RdM.Bs) (q : Option Addr) (cq : Nat) : List SegV :=
  match Y.getLast? with
  | none => [⟨1, 1, q, cq, pend⟩]
  | some x => if o = true ∨ 8 ≤ x.grp then Y ++ [⟨x.num + 1, 1, q, cq, pend⟩] else Y.dropLast ++ [⟨x.num, x.grp + 1, q, cq, x.recs ++ pend⟩]
def recsN (Y : List SegV) (o : Bool) (pend : List RdM.Bs) : List RdM.Bs :=
  match Y.getLast? with
  | none => pend
  | some x => if o = true ∨ 8 ≤ x.grp then pend else x.recs ++ pend
theorem set_last {α : Type} {B : List α} {y z w : α} (h : B[((B.length : Int) - 1).toNat]? = some y) : ∃ S, B = S ++ [y] ∧ (B.set ((B.length : Int) - 1).toNat z).set ((B.length : Int) - 1).toNat w = S ++ [w] := by
  obtain ⟨S, hS⟩ := List.getLast?_eq_some_iff.1 (last_at h)
  refine ⟨S, hS, ?_⟩
  rw [List.set_set]
  subst hS
  have : (((S ++ [y]).length : Int) - 1).toNat = S.length := by simp
  rw [this, List.set_append_right _ _ (Nat.le_refl _), Nat.sub_self]; rfl
set_option maxHeartbeats 4000000 in
set_option maxRecDepth 100000 in
theorem mcommit_go {σ : World} {F : List Res} {a p : Option Addr} {c cp : Nat} {f : Int} {o : Bool} {Y : List SegV} {pend : List RdM.Bs} (lab1 lab2 : Nat) (hY : Sl σ F encSegV 3 (.slice a Y.length c) Y) (hR : SlX σ F Y) (hP : Sl σ F encT 1 (.slice p pend.length cp) pend) (h0 : 0 < pend.length) (hl : pend.length ≤ 1000000) (hYl : Y.length ≤ 1000000) (hb : ∀ x ∈ Y, x.num ≤ 1000000 ∧ x.grp ≤ 1000000 ∧ x.recs.length ≤ 1000000) :
    FnT Try.prog σ F 56 [.agg #[.slice a Y.length c, .int .i64 f, .slice p pend.length cp, .bool o]] [] (fun u ρ => ∃ a' c' q cq, u = .agg #[.slice a' (noteX Y o pend q cq).length c', .int .i64 f, .slice none 0 0, .bool false] ∧ ρ = [(lab1, slW 96 encSegV 3 (.slice a' (noteX Y o pend q cq).length c') (noteX Y o pend q cq)), (lab2, slW 9 encT 1 (.slice q (recsN Y o pend).length cq) (recsN Y o pend))]) := by
  refine fn_of 80 Try.func56 rfl Try.ntmps56 rfl ?_
  obtain ⟨gl, hgl⟩ : ∃ gl, gl = (Y.getLast?.map SegV.grp).getD 0 := ⟨_, rfl⟩
  refine w_seq (w_region (wl_op [] rfl rfl rfl rfl (op_box (T := 52) (l := 1) rfl) ?_))
  rintro _ _ ⟨b1, rfl, rfl⟩
  refine wl_op [] rfl rfl rfl rfl (op_alloc (l := 2) tN52xb) ?_
  rintro _ _ ⟨b2, rfl, rfl⟩
  refine wl_nil (st_tn (w_seq (w_seq (w_region (zd rfl (op_fieldAddr (off := 2) rfl tF52_2xb) (zd rfl (op_load1 rfl tO35xb (Ent.lab (l := 1) rfl (says_cel 2))) (zd rfl (op_lenT rfl tS35xb (Sl.ent (by first | exact Sl.app (by assumption) _ | exact Sl.app (Sl.app (by assumption) _) _))) ?_)))))))
  refine zd rfl (op_val (v' := .bool false) (by rw [decide_eq_false (by omega)]) (op_eql rfl rfl)) ?_
  refine wl_nil (st_tn (w_cond_f (rfl) ?_))
  refine w_skip (st_tn (w_seq (w_region (zd rfl (op_fieldAddr (off := 0) rfl tF52_0xb) (zd rfl (op_load1 rfl tO50xb (Ent.lab (l := 1) rfl (says_cel 0))) (zd rfl (op_lenT rfl tS50xb (Sl.ent (by first | exact Sl.app (by assumption) _ | exact Sl.app (Sl.app (by assumption) _) _))) ?_))))))
  refine za rfl (wl_nil (st_tn (w_seq (w_region (wl_op [] rfl rfl rfl rfl (op_lit0 (enc := encSegV) (lab := 14) tS50xb) ?_)))))
  rintro _ _ ⟨a14, c14, rfl, rfl⟩
  refine zd rfl (op_fieldAddr (off := 0) rfl tF52_0xb) (zd rfl (op_load1 rfl tO50xb (Ent.lab (l := 1) rfl (says_cel 0))) (wl_op [14] rfl rfl rfl rfl (op_append (lab := 14) (lab' := 17) rfl rfl tP50xb enc1SegV (Sl.app hY _) (by simp; omega) (by simp; omega)) ?_))
  rintro _ _ ⟨a17, c17, rfl, rfl⟩
  refine za rfl (wl_nil (st_tn (w_seq (w_seq ?_))))
  rw [List.nil_append]
  by_cases hz : Y.length = 0
  · -- hz+
    have hY0 : Y = [] := List.eq_nil_of_length_eq_zero hz
    refine w_region (zm rfl (zd rfl (op_val (v' := .bool true) (by rw [decide_eq_true (by omega)]) (op_eql rfl rfl)) ?_))
    refine zm rfl (wl_unwanted rfl rfl rfl rfl rfl rfl rfl rfl (wl_unwanted rfl rfl rfl rfl rfl rfl rfl rfl (zd rfl (op_pick_t rfl rfl) (zm rfl (wl_unwanted rfl rfl rfl rfl rfl rfl rfl rfl (wl_unwanted rfl rfl rfl rfl rfl rfl rfl rfl (wl_unwanted rfl rfl rfl rfl rfl rfl rfl rfl (wl_unwanted rfl rfl rfl rfl rfl rfl rfl rfl (wl_unwanted rfl rfl rfl rfl rfl rfl rfl rfl (wl_unwanted rfl rfl rfl rfl rfl rfl rfl rfl (wl_unwanted rfl rfl rfl rfl rfl rfl rfl rfl (zd rfl (op_pick_t rfl rfl) (wl_nil ?_)))))))))))))
    refine st_tn (w_cond_t (rfl) ?_)
    refine w_seq (w_region (zd rfl (op_build tB96xb rfl rfl) (wl_op [] rfl rfl rfl rfl (op_alloc (l := 5) tN96xb) ?_)))
    rintro _ _ ⟨b5, rfl, rfl⟩
    refine wl_op0 [5] rfl rfl rfl (op_store rfl rfl tZ96xb (by rfl) (by rfl) (by exact Nat.le_of_ble_eq_true rfl)) ?_
    rintro _ _ ⟨rfl, rfl⟩
    refine wl_nil (st_tn (w_seq (w_seq (w_region (zm rfl (zd rfl (op_val (v' := .bool false) (by rw [decide_eq_false (by omega)]) (op_gtr rfl rfl)) ?_))))))
    refine wl_nil (st_tn (w_cond_f (rfl) ?_))
    refine w_skip (st_tn (w_region (zm rfl (zd rfl (op_loadA rfl tA96xb (Ent.lab (l := 5) rfl (says_cel 0)) (Nat.le_of_ble_eq_true rfl)) (wl_op [] rfl rfl rfl rfl (op_buildSlice (enc := encSegV) (l := [(⟨1, 0, none, 0, []⟩ : SegV)]) (lab := 46) tL50_1xb rfl rfl (fun _ => rfl) rfl) ?_)))))
    rintro _ _ ⟨a46, c46, rfl, rfl⟩
    refine wl_op [17] rfl rfl rfl rfl (op_append (lab := 17) (lab' := 47) rfl rfl tP50xb enc1SegV (Sl.lab 46 rfl (by simp [maxLen])) (by simp; omega) (by simp; omega)) ?_
    rintro _ _ ⟨a47, c47, rfl, rfl⟩
    refine zm rfl (zd rfl (op_add' rfl rfl (by omega)) ?_)
    refine za rfl (za rfl (wl_nil (st_tn (w_seq ?_))))
    obtain ⟨B, hB⟩ : ∃ B, B = Y ++ [(⟨1, 0, none, 0, []⟩ : SegV)] := ⟨_, rfl⟩
    rw [← hB]
    have hBl : B.length = Y.length + 1 := by rw [hB]; simp
    have hy0 : ∀ y, B[((B.length : Int) - 1).toNat]? = some y → y = ⟨1, 0, none, 0, []⟩ := fun y hy => by
      rw [hBl] at hy
      rw [hB, List.getElem?_append_right (by omega), show (((Y.length + 1 : Nat) : Int) - 1).toNat - Y.length = 0 by omega] at hy
      simp at hy; exact hy.symm
    obtain ⟨y, hy⟩ := getE (l := B) (i := ((B.length : Int) - 1).toNat) (by omega)
    have hyr : Sl σ F encT 1 (.slice y.q y.recs.length y.cq) y.recs := by rw [hy0 y hy]; exact Sl.nilv
    have hyb : y.grp ≤ 1000000 ∧ y.recs.length ≤ 1000000 := by rw [hy0 y hy]; simp
    have hB1l : (B.set ((B.length : Int) - 1).toNat (⟨y.num, y.grp + 1, y.q, y.cq, y.recs⟩ : SegV)).length = B.length := List.length_set ..
    have hy1 : (B.set ((B.length : Int) - 1).toNat (⟨y.num, y.grp + 1, y.q, y.cq, y.recs⟩ : SegV))[((B.length : Int) - 1).toNat]? = some (⟨y.num, y.grp + 1, y.q, y.cq, y.recs⟩ : SegV) := List.getElem?_set_self (by omega)
    refine w_region (zm rfl (zm rfl (zd rfl (op_val (v' := .int .i64 ((B.length : Int) - 1)) (by congr 1; omega) (op_sub' rfl rfl (by omega))) ?_)))
    refine zd rfl (op_idxZ (l := B) rfl rfl tS50xb (Sl.ent (Sl.lab (E := 96) (enc := encSegV) (l := B) 47 rfl (by unfold maxLen; omega))) (by omega) (by omega)) ?_
    refine zd rfl (op_fieldAddr (off := 1) rfl tF96_1xb) (zd rfl (op_ldxf rfl tO3xb (Sl.lab (E := 96) (enc := encSegV) (l := B) 47 rfl (by unfold maxLen; omega)) hy (by rfl)) ?_)
    refine zd rfl (op_add' rfl rfl (by omega)) ?_
    refine zd rfl (op_idxZ (l := B) rfl rfl tS50xb (Sl.ent (Sl.lab (E := 96) (enc := encSegV) (l := B) 47 rfl (by unfold maxLen; omega))) (by omega) (by omega)) ?_
    refine zd rfl (op_fieldAddr (off := 1) rfl tF96_1xb) (wl_op0 [47] rfl rfl rfl (op_storeX (lab := 47) (j := 1) (b' := ⟨y.num, y.grp + 1, y.q, y.cq, y.recs⟩) rfl rfl tO3xb rfl rfl (by rfl) hy (Nat.le_of_ble_eq_true rfl) (by rfl)) ?_)
    rintro _ _ ⟨rfl, rfl⟩
    refine wl_nil (st_tn (w_seq ?_))
    refine w_drawW (fun β => [⟨59, [], [], [], noW (_), false, [], []⟩, ⟨60, [], [], [], noW (_), false, [], []⟩, ⟨61, [1], [], [], noW (_), false, [], []⟩, ⟨62, [], [], [], fun w => DetW _ _, true, [], []⟩, ⟨63, [], [], [], noW (_), false, [], []⟩, ⟨64, [], [], [], noW (_), false, [], []⟩, ⟨65, [5], [], [], noW (_), false, [], []⟩, ⟨66, [4, 6], [], [], noW (_), false, [], []⟩, ⟨67, [7], [], [], noW (_), false, [], []⟩, ⟨68, [8], [], [], noW (_), false, [], []⟩, ⟨69, [9], [3], [], fun w => DetW _ _, true, [], []⟩, ⟨70, [], [], [], noW (_), false, [], []⟩, ⟨71, [11], [], [], noW (_), false, [], []⟩, ⟨72, [12], [10], [], fun w => DetW _ _, false, [], []⟩]) [] [4, 3, 1] [⟨59, [], [], false, [], []⟩, ⟨60, [], [], false, [], []⟩, ⟨61, [1], [], false, [], []⟩, ⟨62, [], [], true, [], []⟩, ⟨63, [], [], false, [], []⟩, ⟨64, [], [], false, [], []⟩, ⟨65, [5], [], false, [], []⟩, ⟨66, [4, 6], [], false, [], []⟩, ⟨67, [7], [], false, [], []⟩, ⟨68, [8], [], false, [], []⟩, ⟨69, [9], [3], true, [], []⟩, ⟨70, [], [], false, [], []⟩, ⟨71, [11], [], false, [], []⟩, ⟨72, [12], [10], false, [], []⟩] [[], [], [], [], [], [], [], [], [], [], [3], [], [], [3, 10]] [[], [], [], [], [], [], [], [], [], [], [], [], [], []] tMixxb (fun _ => by rfl) (fun _ => by rfl) (by kernel_rfl) (by kernel_rfl) (by rfl) (by rfl)
        (fun β => ⟨.p rfl (by intro X; exact op_move rfl),
        ⟨.p rfl (by intro X; exact op_move rfl),
        ⟨.p rfl (by intro X; rintro _ _ ⟨rfl, rfl⟩; exact op_val (v' := .int .i64 ((B.length : Int) - 1)) (by congr 1; omega) (op_sub' rfl rfl (by omega))),
        ⟨.px rfl (by intro X; refine OpT.mono (op_lit0 (enc := encT) (lab := 62) tS35xb) ?_; rintro _ _ ⟨a62, c62, rfl, rfl⟩; obtain ⟨w, rfl, rfl⟩ : ∃ w : Wt, w.a = a62 ∧ w.c = c62 := ⟨{ a := a62, c := c62 }, rfl, rfl⟩; exact ⟨w, rfl, rfl⟩),
        ⟨.p rfl (by intro X; exact op_move rfl),
        ⟨.p rfl (by intro X; exact op_move rfl),
        ⟨.p rfl (by intro X; rintro _ _ ⟨rfl, rfl⟩; exact op_val (v' := .int .i64 ((B.length : Int) - 1)) (by congr 1; omega) (op_sub' rfl rfl (by omega))),
        ⟨.p rfl (by intro X; rintro _ _ ⟨rfl, rfl⟩ _ _ ⟨rfl, rfl⟩; exact op_idxZ (l := (B.set ((B.length : Int) - 1).toNat (⟨y.num, y.grp + 1, y.q, y.cq, y.recs⟩ : SegV))) rfl rfl tS50xb (Sl.ent (Sl.lab (E := 96) (enc := encSegV) (l := (B.set ((B.length : Int) - 1).toNat (⟨y.num, y.grp + 1, y.q, y.cq, y.recs⟩ : SegV))) 47 rfl (by rw [hB1l]; unfold maxLen; omega))) (by omega) (by rw [hB1l]; omega)),
        ⟨.p rfl (by intro X; rintro _ _ ⟨rfl, rfl⟩; exact op_fieldAddr (off := 2) rfl tF96_2xb),
        ⟨.p rfl (by intro X; rintro _ _ ⟨rfl, rfl⟩; exact op_ldxf rfl tO35xb (Sl.lab (E := 96) (enc := encSegV) (l := (B.set ((B.length : Int) - 1).toNat (⟨y.num, y.grp + 1, y.q, y.cq, y.recs⟩ : SegV))) 47 rfl (by rw [hB1l]; unfold maxLen; omega)) hy1 (by rfl)),
        ⟨.px rfl (by intro X; rintro _ _ ⟨rfl, rfl⟩ _ _ ⟨rfl, rfl⟩; show OpT _ _ _ _ _ _ [(_, _)] _; refine OpT.mono (op_append (lab := 62) (lab' := 69) rfl rfl tP35xb enc1T (Sl.app (Sl.app hyr X) _) (by simp; omega) (by simp; omega)) ?_; rintro _ _ ⟨a69, c69, rfl, rfl⟩; obtain ⟨w, rfl, rfl⟩ : ∃ w : Wt, w.a = a69 ∧ w.c = c69 := ⟨{ a := a69, c := c69 }, rfl, rfl⟩; exact ⟨w, rfl, rfl⟩),
        ⟨.p rfl (by intro X; exact op_fieldAddr (off := 2) rfl tF52_2xb),
        ⟨.p rfl (by intro X; rintro _ _ ⟨rfl, rfl⟩; exact op_load1 rfl tO35xb (Ent.lab (l := 1) rfl (says_cel 2))),
        ⟨.px rfl (by intro X; rintro _ _ ⟨rfl, rfl⟩ _ _ ⟨rfl, rfl⟩; show OpT _ _ _ _ _ _ [(_, _)] _; refine OpT.mono (op_append (lab := 69) (lab' := 72) rfl rfl tP35xb enc1T (Sl.app (Sl.app hP X) _) (by simp; omega) (by simp; omega)) ?_; rintro _ _ ⟨a72, c72, rfl, rfl⟩; obtain ⟨w, rfl, rfl⟩ : ∃ w : Wt, w.a = a72 ∧ w.c = c72 := ⟨{ a := a72, c := c72 }, rfl, rfl⟩; exact ⟨w, rfl, rfl⟩),
        trivial⟩⟩⟩⟩⟩⟩⟩⟩⟩⟩⟩⟩⟩⟩)
        (fun β β' => ⟨fun _ => by rfl, ⟨fun _ => by rfl, ⟨fun _ => by rfl, ⟨fun _ => by rfl, ⟨fun _ => by rfl, ⟨fun _ => by rfl, ⟨fun _ => by rfl, ⟨fun _ => by rfl, ⟨fun _ => by rfl, ⟨fun _ => by rfl, ⟨fun h => by first | rfl | (simp only [h 3 (by decide)]), ⟨fun _ => by rfl, ⟨fun _ => by rfl, ⟨fun h => by first | rfl | (simp only [h 3 (by decide), h 10 (by decide)]), trivial⟩⟩⟩⟩⟩⟩⟩⟩⟩⟩⟩⟩⟩⟩) ?_
    intro β
    rintro _ _ ⟨rfl, rfl⟩ _ _ ⟨rfl, rfl⟩ _ _ ⟨rfl, rfl⟩ _ _ ⟨rfl, rfl⟩ _ _ ⟨rfl, rfl⟩ _ _ ⟨rfl, rfl⟩ _ _ ⟨rfl, rfl⟩ _ _ ⟨rfl, rfl⟩ _ _ ⟨rfl, rfl⟩ _ _ ⟨rfl, rfl⟩ _ _ ⟨rfl, rfl⟩ _ _ ⟨rfl, rfl⟩ _ _ ⟨rfl, rfl⟩ _ _ ⟨rfl, rfl⟩
    generalize (β 3).a = a62
    generalize (β 3).c = c62
    generalize (β 10).a = a69
    generalize (β 10).c = c69
    generalize (β 13).a = a72
    generalize (β 13).c = c72
    refine wl_norm (e' := [(1, _), (2, _), (4, _), (59, _), (61, _), (72, _)]) (.cons rfl (.cons rfl (.cons rfl (.cons rfl (.cons rfl (.cons rfl (.nil _))))))) (by dsimp only [cond_false, cond_true, List.nil_append, List.cons_append]) ?_
    refine zd rfl (op_idxZ (l := (B.set ((B.length : Int) - 1).toNat (⟨y.num, y.grp + 1, y.q, y.cq, y.recs⟩ : SegV))) rfl rfl tS50xb (Sl.ent (Sl.lab (E := 96) (enc := encSegV) (l := (B.set ((B.length : Int) - 1).toNat (⟨y.num, y.grp + 1, y.q, y.cq, y.recs⟩ : SegV))) 47 rfl (by rw [hB1l]; unfold maxLen; omega))) (by omega) (by rw [hB1l]; omega)) ?_
    refine zd rfl (op_fieldAddr (off := 2) rfl tF96_2xb) (wl_op0 [47] rfl rfl rfl (op_storeX (lab := 47) (j := 2) (b' := ⟨y.num, y.grp + 1, a72, c72, y.recs ++ pend⟩) rfl rfl tO35xb rfl rfl (by rfl) hy1 (Nat.le_of_ble_eq_true rfl) (by rfl)) ?_)
    rintro _ _ ⟨rfl, rfl⟩
    refine wl_nil (st_tn (w_seq (w_region (zm rfl (zd rfl (op_fieldAddr (off := 0) rfl tF52_0xb) (wl_op0 [1] rfl rfl rfl (op_store rfl rfl tZ50xb (by rfl) (by rfl) (by exact Nat.le_of_ble_eq_true rfl)) ?_))))))
    rintro _ _ ⟨rfl, rfl⟩
    refine zd rfl (op_fieldAddr (off := 2) rfl tF52_2xb) (wl_op0 [1] rfl rfl rfl (op_store rfl rfl tZ35xb (by rfl) (by rfl) (by exact Nat.le_of_ble_eq_true rfl)) ?_)
    rintro _ _ ⟨rfl, rfl⟩
    refine zd rfl (op_fieldAddr (off := 3) rfl tF52_3xb) (wl_op0 [1] rfl rfl rfl (op_store rfl rfl tZ4xb (by rfl) (by rfl) (by exact Nat.le_of_ble_eq_true rfl)) ?_)
    rintro _ _ ⟨rfl, rfl⟩
    refine wl_nil (st_tn (w_seq (w_region (zd rfl (op_loadA rfl tA52xb (Ent.lab (l := 1) rfl (says_cel 0)) (Nat.le_of_ble_eq_true rfl)) (wl_op0 [2] rfl rfl rfl (op_store rfl rfl tZ52xb (by rfl) (by rfl) (by exact Nat.le_of_ble_eq_true rfl)) ?_)))))
    rintro _ _ ⟨rfl, rfl⟩
    refine wl_nil (st_tn (w_ret (st_ret (vs := [_]) [47, 72] Try.results56 ⟨⟨_, rfl, Ent.mono (Ent.lab (l := 2) rfl (says_cel 0)) (fun _ h => run_load_agg tA52xb h (Nat.le_of_ble_eq_true rfl))⟩, trivial⟩ rfl ?_)))
    refine ⟨[(lab1, _), (lab2, _)], rfl, ?_⟩
    skip
    refine ⟨a47, c47, a72, c72, ?_⟩
    obtain ⟨S, hS, hset⟩ := set_last (z := (⟨y.num, y.grp + 1, y.q, y.cq, y.recs⟩ : SegV)) (w := (⟨y.num, y.grp + 1, a72, c72, y.recs ++ pend⟩ : SegV)) hy
    rw [hset]
    have e1 : noteX Y o pend a72 c72 = S ++ [(⟨y.num, y.grp + 1, a72, c72, y.recs ++ pend⟩ : SegV)] := by
      obtain ⟨e2, e3⟩ := List.append_inj' (hB.symm.trans hS) rfl
      subst e2
      rw [hy0 y hy]
      rw [hY0]; rfl
    have e4 : recsN Y o pend = y.recs ++ pend := by rw [hy0 y hy]; rw [hY0]; rfl
    have e5 : B.length = (noteX Y o pend a72 c72).length := by rw [e1, hS]; simp
    rw [← e1, e4, e5]; exact ⟨rfl, rfl⟩
  · -- hz-
    obtain ⟨x, hx⟩ := getE (l := Y) (i := ((Y.length : Int) - 1).toNat) (by omega)
    have hxb := hb x (List.mem_of_getElem? hx)
    have hlast := last_at hx
    rw [hlast] at hgl
    have hgl : gl = x.grp := hgl
    by_cases ho : o = true
    · -- ho+
      refine w_region (zm rfl (zd rfl (op_val (v' := .bool false) (by rw [decide_eq_false (by omega)]) (op_eql rfl rfl)) ?_))
      refine zm rfl (wl_wanted_det rfl rfl rfl rfl rfl rfl rfl (op_fieldAddr (off := 3) rfl tF52_3xb) (wl_wanted_det rfl rfl rfl rfl rfl rfl rfl (op_val (v' := .bool true) (by rw [ho]) (op_load1 rfl tO4xb (Ent.lab (l := 1) rfl (says_cel 3)))) ?_))
      refine zd rfl (op_pick_f rfl rfl) (zm rfl (wl_unwanted rfl rfl rfl rfl rfl rfl rfl rfl (wl_unwanted rfl rfl rfl rfl rfl rfl rfl rfl (wl_unwanted rfl rfl rfl rfl rfl rfl rfl rfl (wl_unwanted rfl rfl rfl rfl rfl rfl rfl rfl (wl_unwanted rfl rfl rfl rfl rfl rfl rfl rfl (wl_unwanted rfl rfl rfl rfl rfl rfl rfl rfl (wl_unwanted rfl rfl rfl rfl rfl rfl rfl rfl (zd rfl (op_pick_t rfl rfl) (wl_nil (st_tn (w_cond_t (rfl) ?_))))))))))))
      refine w_seq (w_region (zd rfl (op_build tB96xb rfl rfl) (wl_op [] rfl rfl rfl rfl (op_alloc (l := 5) tN96xb) ?_)))
      rintro _ _ ⟨b5, rfl, rfl⟩
      refine wl_op0 [5] rfl rfl rfl (op_store rfl rfl tZ96xb (by rfl) (by rfl) (by exact Nat.le_of_ble_eq_true rfl)) ?_
      rintro _ _ ⟨rfl, rfl⟩
      refine wl_nil (st_tn (w_seq (w_seq (w_region (zm rfl (zd rfl (op_val (v' := .bool true) (by rw [decide_eq_true (by omega)]) (op_gtr rfl rfl)) ?_))))))
      refine wl_nil (st_tn (w_cond_t (rfl) ?_))
      refine w_region (zm rfl (zm rfl (zd rfl (op_sub' rfl rfl (by omega)) ?_)))
      refine zd rfl (op_idxZ rfl rfl tS50xb (Sl.ent (Sl.lab 17 rfl (by first | (unfold maxLen; omega) | (unfold maxLen; simp; omega)))) (by omega) (by omega)) ?_
      refine zd rfl (op_fieldAddr (off := 0) rfl tF96_0xb) (zd rfl (op_ldxf rfl tO3xb (Sl.lab 17 rfl (by first | (unfold maxLen; omega) | (unfold maxLen; simp; omega))) (by assumption) (by rfl)) ?_)
      refine zd rfl (op_add' rfl rfl (by omega)) ?_
      refine zd rfl (op_fieldAddr (off := 0) rfl tF96_0xb) (wl_op0 [5] rfl rfl rfl (op_store rfl rfl tZ3xb (by rfl) (by rfl) (by exact Nat.le_of_ble_eq_true rfl)) ?_)
      rintro _ _ ⟨rfl, rfl⟩
      refine wl_nil (st_tn (w_region (zm rfl (zd rfl (op_loadA rfl tA96xb (Ent.lab (l := 5) rfl (says_cel 0)) (Nat.le_of_ble_eq_true rfl)) (wl_op [] rfl rfl rfl rfl (op_buildSlice (enc := encSegV) (l := [(⟨x.num + 1, 0, none, 0, []⟩ : SegV)]) (lab := 46) tL50_1xb rfl rfl (fun _ => rfl) rfl) ?_)))))
      rintro _ _ ⟨a46, c46, rfl, rfl⟩
      refine wl_op [17] rfl rfl rfl rfl (op_append (lab := 17) (lab' := 47) rfl rfl tP50xb enc1SegV (Sl.lab 46 rfl (by simp [maxLen])) (by simp; omega) (by simp; omega)) ?_
      rintro _ _ ⟨a47, c47, rfl, rfl⟩
      refine zm rfl (zd rfl (op_add' rfl rfl (by omega)) ?_)
      refine za rfl (za rfl (wl_nil (st_tn (w_seq ?_))))
      obtain ⟨B, hB⟩ : ∃ B, B = Y ++ [(⟨x.num + 1, 0, none, 0, []⟩ : SegV)] := ⟨_, rfl⟩
      rw [← hB]
      have hBl : B.length = Y.length + 1 := by rw [hB]; simp
      have hy0 : ∀ y, B[((B.length : Int) - 1).toNat]? = some y → y = ⟨x.num + 1, 0, none, 0, []⟩ := fun y hy => by
        rw [hBl] at hy
        rw [hB, List.getElem?_append_right (by omega), show (((Y.length + 1 : Nat) : Int) - 1).toNat - Y.length = 0 by omega] at hy
        simp at hy; exact hy.symm
      obtain ⟨y, hy⟩ := getE (l := B) (i := ((B.length : Int) - 1).toNat) (by omega)
      have hyr : Sl σ F encT 1 (.slice y.q y.recs.length y.cq) y.recs := by rw [hy0 y hy]; exact Sl.nilv
      have hyb : y.grp ≤ 1000000 ∧ y.recs.length ≤ 1000000 := by rw [hy0 y hy]; simp
      have hB1l : (B.set ((B.length : Int) - 1).toNat (⟨y.num, y.grp + 1, y.q, y.cq, y.recs⟩ : SegV)).length = B.length := List.length_set ..
      have hy1 : (B.set ((B.length : Int) - 1).toNat (⟨y.num, y.grp + 1, y.q, y.cq, y.recs⟩ : SegV))[((B.length : Int) - 1).toNat]? = some (⟨y.num, y.grp + 1, y.q, y.cq, y.recs⟩ : SegV) := List.getElem?_set_self (by omega)
      refine w_region (zm rfl (zm rfl (zd rfl (op_val (v' := .int .i64 ((B.length : Int) - 1)) (by congr 1; omega) (op_sub' rfl rfl (by omega))) ?_)))
      refine zd rfl (op_idxZ (l := B) rfl rfl tS50xb (Sl.ent (Sl.lab (E := 96) (enc := encSegV) (l := B) 47 rfl (by unfold maxLen; omega))) (by omega) (by omega)) ?_
      refine zd rfl (op_fieldAddr (off := 1) rfl tF96_1xb) (zd rfl (op_ldxf rfl tO3xb (Sl.lab (E := 96) (enc := encSegV) (l := B) 47 rfl (by unfold maxLen; omega)) hy (by rfl)) ?_)
      refine zd rfl (op_add' rfl rfl (by omega)) ?_
      refine zd rfl (op_idxZ (l := B) rfl rfl tS50xb (Sl.ent (Sl.lab (E := 96) (enc := encSegV) (l := B) 47 rfl (by unfold maxLen; omega))) (by omega) (by omega)) ?_
      refine zd rfl (op_fieldAddr (off := 1) rfl tF96_1xb) (wl_op0 [47] rfl rfl rfl (op_storeX (lab := 47) (j := 1) (b' := ⟨y.num, y.grp + 1, y.q, y.cq, y.recs⟩) rfl rfl tO3xb rfl rfl (by rfl) hy (Nat.le_of_ble_eq_true rfl) (by rfl)) ?_)
      rintro _ _ ⟨rfl, rfl⟩
      refine wl_nil (st_tn (w_seq ?_))
      refine w_drawW (fun β => [⟨59, [], [], [], noW (_), false, [], []⟩, ⟨60, [], [], [], noW (_), false, [], []⟩, ⟨61, [1], [], [], noW (_), false, [], []⟩, ⟨62, [], [], [], fun w => DetW _ _, true, [], []⟩, ⟨63, [], [], [], noW (_), false, [], []⟩, ⟨64, [], [], [], noW (_), false, [], []⟩, ⟨65, [5], [], [], noW (_), false, [], []⟩, ⟨66, [4, 6], [], [], noW (_), false, [], []⟩, ⟨67, [7], [], [], noW (_), false, [], []⟩, ⟨68, [8], [], [], noW (_), false, [], []⟩, ⟨69, [9], [3], [], fun w => DetW _ _, true, [], []⟩, ⟨70, [], [], [], noW (_), false, [], []⟩, ⟨71, [11], [], [], noW (_), false, [], []⟩, ⟨72, [12], [10], [], fun w => DetW _ _, false, [], []⟩]) [] [4, 3, 1] [⟨59, [], [], false, [], []⟩, ⟨60, [], [], false, [], []⟩, ⟨61, [1], [], false, [], []⟩, ⟨62, [], [], true, [], []⟩, ⟨63, [], [], false, [], []⟩, ⟨64, [], [], false, [], []⟩, ⟨65, [5], [], false, [], []⟩, ⟨66, [4, 6], [], false, [], []⟩, ⟨67, [7], [], false, [], []⟩, ⟨68, [8], [], false, [], []⟩, ⟨69, [9], [3], true, [], []⟩, ⟨70, [], [], false, [], []⟩, ⟨71, [11], [], false, [], []⟩, ⟨72, [12], [10], false, [], []⟩] [[], [], [], [], [], [], [], [], [], [], [3], [], [], [3, 10]] [[], [], [], [], [], [], [], [], [], [], [], [], [], []] tMixxb (fun _ => by rfl) (fun _ => by rfl) (by kernel_rfl) (by kernel_rfl) (by rfl) (by rfl)
          (fun β => ⟨.p rfl (by intro X; exact op_move rfl),
          ⟨.p rfl (by intro X; exact op_move rfl),
          ⟨.p rfl (by intro X; rintro _ _ ⟨rfl, rfl⟩; exact op_val (v' := .int .i64 ((B.length : Int) - 1)) (by congr 1; omega) (op_sub' rfl rfl (by omega))),
          ⟨.px rfl (by intro X; refine OpT.mono (op_lit0 (enc := encT) (lab := 62) tS35xb) ?_; rintro _ _ ⟨a62, c62, rfl, rfl⟩; obtain ⟨w, rfl, rfl⟩ : ∃ w : Wt, w.a = a62 ∧ w.c = c62 := ⟨{ a := a62, c := c62 }, rfl, rfl⟩; exact ⟨w, rfl, rfl⟩),
          ⟨.p rfl (by intro X; exact op_move rfl),
          ⟨.p rfl (by intro X; exact op_move rfl),
          ⟨.p rfl (by intro X; rintro _ _ ⟨rfl, rfl⟩; exact op_val (v' := .int .i64 ((B.length : Int) - 1)) (by congr 1; omega) (op_sub' rfl rfl (by omega))),
          ⟨.p rfl (by intro X; rintro _ _ ⟨rfl, rfl⟩ _ _ ⟨rfl, rfl⟩; exact op_idxZ (l := (B.set ((B.length : Int) - 1).toNat (⟨y.num, y.grp + 1, y.q, y.cq, y.recs⟩ : SegV))) rfl rfl tS50xb (Sl.ent (Sl.lab (E := 96) (enc := encSegV) (l := (B.set ((B.length : Int) - 1).toNat (⟨y.num, y.grp + 1, y.q, y.cq, y.recs⟩ : SegV))) 47 rfl (by rw [hB1l]; unfold maxLen; omega))) (by omega) (by rw [hB1l]; omega)),
          ⟨.p rfl (by intro X; rintro _ _ ⟨rfl, rfl⟩; exact op_fieldAddr (off := 2) rfl tF96_2xb),
          ⟨.p rfl (by intro X; rintro _ _ ⟨rfl, rfl⟩; exact op_ldxf rfl tO35xb (Sl.lab (E := 96) (enc := encSegV) (l := (B.set ((B.length : Int) - 1).toNat (⟨y.num, y.grp + 1, y.q, y.cq, y.recs⟩ : SegV))) 47 rfl (by rw [hB1l]; unfold maxLen; omega)) hy1 (by rfl)),
          ⟨.px rfl (by intro X; rintro _ _ ⟨rfl, rfl⟩ _ _ ⟨rfl, rfl⟩; show OpT _ _ _ _ _ _ [(_, _)] _; refine OpT.mono (op_append (lab := 62) (lab' := 69) rfl rfl tP35xb enc1T (Sl.app (Sl.app hyr X) _) (by simp; omega) (by simp; omega)) ?_; rintro _ _ ⟨a69, c69, rfl, rfl⟩; obtain ⟨w, rfl, rfl⟩ : ∃ w : Wt, w.a = a69 ∧ w.c = c69 := ⟨{ a := a69, c := c69 }, rfl, rfl⟩; exact ⟨w, rfl, rfl⟩),
          ⟨.p rfl (by intro X; exact op_fieldAddr (off := 2) rfl tF52_2xb),
          ⟨.p rfl (by intro X; rintro _ _ ⟨rfl, rfl⟩; exact op_load1 rfl tO35xb (Ent.lab (l := 1) rfl (says_cel 2))),
          ⟨.px rfl (by intro X; rintro _ _ ⟨rfl, rfl⟩ _ _ ⟨rfl, rfl⟩; show OpT _ _ _ _ _ _ [(_, _)] _; refine OpT.mono (op_append (lab := 69) (lab' := 72) rfl rfl tP35xb enc1T (Sl.app (Sl.app hP X) _) (by simp; omega) (by simp; omega)) ?_; rintro _ _ ⟨a72, c72, rfl, rfl⟩; obtain ⟨w, rfl, rfl⟩ : ∃ w : Wt, w.a = a72 ∧ w.c = c72 := ⟨{ a := a72, c := c72 }, rfl, rfl⟩; exact ⟨w, rfl, rfl⟩),
          trivial⟩⟩⟩⟩⟩⟩⟩⟩⟩⟩⟩⟩⟩⟩)
          (fun β β' => ⟨fun _ => by rfl, ⟨fun _ => by rfl, ⟨fun _ => by rfl, ⟨fun _ => by rfl, ⟨fun _ => by rfl, ⟨fun _ => by rfl, ⟨fun _ => by rfl, ⟨fun _ => by rfl, ⟨fun _ => by rfl, ⟨fun _ => by rfl, ⟨fun h => by first | rfl | (simp only [h 3 (by decide)]), ⟨fun _ => by rfl, ⟨fun _ => by rfl, ⟨fun h => by first | rfl | (simp only [h 3 (by decide), h 10 (by decide)]), trivial⟩⟩⟩⟩⟩⟩⟩⟩⟩⟩⟩⟩⟩⟩) ?_
      intro β
      rintro _ _ ⟨rfl, rfl⟩ _ _ ⟨rfl, rfl⟩ _ _ ⟨rfl, rfl⟩ _ _ ⟨rfl, rfl⟩ _ _ ⟨rfl, rfl⟩ _ _ ⟨rfl, rfl⟩ _ _ ⟨rfl, rfl⟩ _ _ ⟨rfl, rfl⟩ _ _ ⟨rfl, rfl⟩ _ _ ⟨rfl, rfl⟩ _ _ ⟨rfl, rfl⟩ _ _ ⟨rfl, rfl⟩ _ _ ⟨rfl, rfl⟩ _ _ ⟨rfl, rfl⟩
      generalize (β 3).a = a62
      generalize (β 3).c = c62
      generalize (β 10).a = a69
      generalize (β 10).c = c69
      generalize (β 13).a = a72
      generalize (β 13).c = c72
      refine wl_norm (e' := [(1, _), (2, _), (4, _), (59, _), (61, _), (72, _)]) (.cons rfl (.cons rfl (.cons rfl (.cons rfl (.cons rfl (.cons rfl (.nil _))))))) (by dsimp only [cond_false, cond_true, List.nil_append, List.cons_append]) ?_
      refine zd rfl (op_idxZ (l := (B.set ((B.length : Int) - 1).toNat (⟨y.num, y.grp + 1, y.q, y.cq, y.recs⟩ : SegV))) rfl rfl tS50xb (Sl.ent (Sl.lab (E := 96) (enc := encSegV) (l := (B.set ((B.length : Int) - 1).toNat (⟨y.num, y.grp + 1, y.q, y.cq, y.recs⟩ : SegV))) 47 rfl (by rw [hB1l]; unfold maxLen; omega))) (by omega) (by rw [hB1l]; omega)) ?_
      refine zd rfl (op_fieldAddr (off := 2) rfl tF96_2xb) (wl_op0 [47] rfl rfl rfl (op_storeX (lab := 47) (j := 2) (b' := ⟨y.num, y.grp + 1, a72, c72, y.recs ++ pend⟩) rfl rfl tO35xb rfl rfl (by rfl) hy1 (Nat.le_of_ble_eq_true rfl) (by rfl)) ?_)
      rintro _ _ ⟨rfl, rfl⟩
      refine wl_nil (st_tn (w_seq (w_region (zm rfl (zd rfl (op_fieldAddr (off := 0) rfl tF52_0xb) (wl_op0 [1] rfl rfl rfl (op_store rfl rfl tZ50xb (by rfl) (by rfl) (by exact Nat.le_of_ble_eq_true rfl)) ?_))))))
      rintro _ _ ⟨rfl, rfl⟩
      refine zd rfl (op_fieldAddr (off := 2) rfl tF52_2xb) (wl_op0 [1] rfl rfl rfl (op_store rfl rfl tZ35xb (by rfl) (by rfl) (by exact Nat.le_of_ble_eq_true rfl)) ?_)
      rintro _ _ ⟨rfl, rfl⟩
      refine zd rfl (op_fieldAddr (off := 3) rfl tF52_3xb) (wl_op0 [1] rfl rfl rfl (op_store rfl rfl tZ4xb (by rfl) (by rfl) (by exact Nat.le_of_ble_eq_true rfl)) ?_)
      rintro _ _ ⟨rfl, rfl⟩
      refine wl_nil (st_tn (w_seq (w_region (zd rfl (op_loadA rfl tA52xb (Ent.lab (l := 1) rfl (says_cel 0)) (Nat.le_of_ble_eq_true rfl)) (wl_op0 [2] rfl rfl rfl (op_store rfl rfl tZ52xb (by rfl) (by rfl) (by exact Nat.le_of_ble_eq_true rfl)) ?_)))))
      rintro _ _ ⟨rfl, rfl⟩
      refine wl_nil (st_tn (w_ret (st_ret (vs := [_]) [47, 72] Try.results56 ⟨⟨_, rfl, Ent.mono (Ent.lab (l := 2) rfl (says_cel 0)) (fun _ h => run_load_agg tA52xb h (Nat.le_of_ble_eq_true rfl))⟩, trivial⟩ rfl ?_)))
      refine ⟨[(lab1, _), (lab2, _)], rfl, ?_⟩
      skip
      refine ⟨a47, c47, a72, c72, ?_⟩
      obtain ⟨S, hS, hset⟩ := set_last (z := (⟨y.num, y.grp + 1, y.q, y.cq, y.recs⟩ : SegV)) (w := (⟨y.num, y.grp + 1, a72, c72, y.recs ++ pend⟩ : SegV)) hy
      rw [hset]
      have e1 : noteX Y o pend a72 c72 = S ++ [(⟨y.num, y.grp + 1, a72, c72, y.recs ++ pend⟩ : SegV)] := by
        obtain ⟨e2, e3⟩ := List.append_inj' (hB.symm.trans hS) rfl
        subst e2
        rw [hy0 y hy]
        unfold noteX; rw [hlast]; dsimp only; rw [if_pos (.inl ho)]; rfl
      have e4 : recsN Y o pend = y.recs ++ pend := by rw [hy0 y hy]; unfold recsN; rw [hlast]; dsimp only; rw [if_pos (.inl ho)]; rfl
      have e5 : B.length = (noteX Y o pend a72 c72).length := by rw [e1, hS]; simp
      rw [← e1, e4, e5]; exact ⟨rfl, rfl⟩
    · -- ho-
      have ho : o = false := by simpa using ho
      by_cases hg : 8 ≤ gl
      · -- hg+
        refine w_region (zm rfl (zd rfl (op_val (v' := .bool false) (by rw [decide_eq_false (by omega)]) (op_eql rfl rfl)) ?_))
        refine zm rfl (wl_wanted_det rfl rfl rfl rfl rfl rfl rfl (op_fieldAddr (off := 3) rfl tF52_3xb) (wl_wanted_det rfl rfl rfl rfl rfl rfl rfl (op_val (v' := .bool false) (by rw [ho]) (op_load1 rfl tO4xb (Ent.lab (l := 1) rfl (says_cel 3)))) ?_))
        refine zd rfl (op_pick_f rfl rfl) (zm rfl (wl_wanted_det rfl rfl rfl rfl rfl rfl rfl (op_move rfl) (wl_wanted_det rfl rfl rfl rfl rfl rfl rfl (op_move rfl) (wl_wanted_det rfl rfl rfl rfl rfl rfl rfl (op_sub' rfl rfl (by omega)) ?_))))
        refine wl_wanted_det rfl rfl rfl rfl rfl rfl rfl (op_idxZ rfl rfl tS50xb (Sl.ent (Sl.lab 17 rfl (by first | (unfold maxLen; omega) | (unfold maxLen; simp; omega)))) (by omega) (by omega)) ?_
        refine wl_wanted_det rfl rfl rfl rfl rfl rfl rfl (op_fieldAddr (off := 1) rfl tF96_1xb) (wl_wanted_det rfl rfl rfl rfl rfl rfl rfl (op_ldxf rfl tO3xb (Sl.lab 17 rfl (by first | (unfold maxLen; omega) | (unfold maxLen; simp; omega))) (by assumption) (by rfl)) ?_)
        refine wl_wanted_det rfl rfl rfl rfl rfl rfl rfl (op_val (v' := .bool true) (by rw [decide_eq_true (by omega)]) (op_geq rfl rfl)) ?_
        refine zd rfl (op_pick_f rfl rfl) (wl_nil (st_tn (w_cond_t (rfl) ?_)))
        refine w_seq (w_region (zd rfl (op_build tB96xb rfl rfl) (wl_op [] rfl rfl rfl rfl (op_alloc (l := 5) tN96xb) ?_)))
        rintro _ _ ⟨b5, rfl, rfl⟩
        refine wl_op0 [5] rfl rfl rfl (op_store rfl rfl tZ96xb (by rfl) (by rfl) (by exact Nat.le_of_ble_eq_true rfl)) ?_
        rintro _ _ ⟨rfl, rfl⟩
        refine wl_nil (st_tn (w_seq (w_seq (w_region (zm rfl (zd rfl (op_val (v' := .bool true) (by rw [decide_eq_true (by omega)]) (op_gtr rfl rfl)) ?_))))))
        refine wl_nil (st_tn (w_cond_t (rfl) ?_))
        refine w_region (zm rfl (zm rfl (zd rfl (op_sub' rfl rfl (by omega)) ?_)))
        refine zd rfl (op_idxZ rfl rfl tS50xb (Sl.ent (Sl.lab 17 rfl (by first | (unfold maxLen; omega) | (unfold maxLen; simp; omega)))) (by omega) (by omega)) ?_
        refine zd rfl (op_fieldAddr (off := 0) rfl tF96_0xb) (zd rfl (op_ldxf rfl tO3xb (Sl.lab 17 rfl (by first | (unfold maxLen; omega) | (unfold maxLen; simp; omega))) (by assumption) (by rfl)) ?_)
        refine zd rfl (op_add' rfl rfl (by omega)) ?_
        refine zd rfl (op_fieldAddr (off := 0) rfl tF96_0xb) (wl_op0 [5] rfl rfl rfl (op_store rfl rfl tZ3xb (by rfl) (by rfl) (by exact Nat.le_of_ble_eq_true rfl)) ?_)
        rintro _ _ ⟨rfl, rfl⟩
        refine wl_nil (st_tn (w_region (zm rfl (zd rfl (op_loadA rfl tA96xb (Ent.lab (l := 5) rfl (says_cel 0)) (Nat.le_of_ble_eq_true rfl)) (wl_op [] rfl rfl rfl rfl (op_buildSlice (enc := encSegV) (l := [(⟨x.num + 1, 0, none, 0, []⟩ : SegV)]) (lab := 46) tL50_1xb rfl rfl (fun _ => rfl) rfl) ?_)))))
        rintro _ _ ⟨a46, c46, rfl, rfl⟩
        refine wl_op [17] rfl rfl rfl rfl (op_append (lab := 17) (lab' := 47) rfl rfl tP50xb enc1SegV (Sl.lab 46 rfl (by simp [maxLen])) (by simp; omega) (by simp; omega)) ?_
        rintro _ _ ⟨a47, c47, rfl, rfl⟩
        refine zm rfl (zd rfl (op_add' rfl rfl (by omega)) ?_)
        refine za rfl (za rfl (wl_nil (st_tn (w_seq ?_))))
        obtain ⟨B, hB⟩ : ∃ B, B = Y ++ [(⟨x.num + 1, 0, none, 0, []⟩ : SegV)] := ⟨_, rfl⟩
        rw [← hB]
        have hBl : B.length = Y.length + 1 := by rw [hB]; simp
        have hy0 : ∀ y, B[((B.length : Int) - 1).toNat]? = some y → y = ⟨x.num + 1, 0, none, 0, []⟩ := fun y hy => by
          rw [hBl] at hy
          rw [hB, List.getElem?_append_right (by omega), show (((Y.length + 1 : Nat) : Int) - 1).toNat - Y.length = 0 by omega] at hy
          simp at hy; exact hy.symm
        obtain ⟨y, hy⟩ := getE (l := B) (i := ((B.length : Int) - 1).toNat) (by omega)
        have hyr : Sl σ F encT 1 (.slice y.q y.recs.length y.cq) y.recs := by rw [hy0 y hy]; exact Sl.nilv
        have hyb : y.grp ≤ 1000000 ∧ y.recs.length ≤ 1000000 := by rw [hy0 y hy]; simp
        have hB1l : (B.set ((B.length : Int) - 1).toNat (⟨y.num, y.grp + 1, y.q, y.cq, y.recs⟩ : SegV)).length = B.length := List.length_set ..
        have hy1 : (B.set ((B.length : Int) - 1).toNat (⟨y.num, y.grp + 1, y.q, y.cq, y.recs⟩ : SegV))[((B.length : Int) - 1).toNat]? = some (⟨y.num, y.grp + 1, y.q, y.cq, y.recs⟩ : SegV) := List.getElem?_set_self (by omega)
        refine w_region (zm rfl (zm rfl (zd rfl (op_val (v' := .int .i64 ((B.length : Int) - 1)) (by congr 1; omega) (op_sub' rfl rfl (by omega))) ?_)))
        refine zd rfl (op_idxZ (l := B) rfl rfl tS50xb (Sl.ent (Sl.lab (E := 96) (enc := encSegV) (l := B) 47 rfl (by unfold maxLen; omega))) (by omega) (by omega)) ?_
        refine zd rfl (op_fieldAddr (off := 1) rfl tF96_1xb) (zd rfl (op_ldxf rfl tO3xb (Sl.lab (E := 96) (enc := encSegV) (l := B) 47 rfl (by unfold maxLen; omega)) hy (by rfl)) ?_)
        refine zd rfl (op_add' rfl rfl (by omega)) ?_
        refine zd rfl (op_idxZ (l := B) rfl rfl tS50xb (Sl.ent (Sl.lab (E := 96) (enc := encSegV) (l := B) 47 rfl (by unfold maxLen; omega))) (by omega) (by omega)) ?_
        refine zd rfl (op_fieldAddr (off := 1) rfl tF96_1xb) (wl_op0 [47] rfl rfl rfl (op_storeX (lab := 47) (j := 1) (b' := ⟨y.num, y.grp + 1, y.q, y.cq, y.recs⟩) rfl rfl tO3xb rfl rfl (by rfl) hy (Nat.le_of_ble_eq_true rfl) (by rfl)) ?_)
        rintro _ _ ⟨rfl, rfl⟩
        refine wl_nil (st_tn (w_seq ?_))
        refine w_drawW (fun β => [⟨59, [], [], [], noW (_), false, [], []⟩, ⟨60, [], [], [], noW (_), false, [], []⟩, ⟨61, [1], [], [], noW (_), false, [], []⟩, ⟨62, [], [], [], fun w => DetW _ _, true, [], []⟩, ⟨63, [], [], [], noW (_), false, [], []⟩, ⟨64, [], [], [], noW (_), false, [], []⟩, ⟨65, [5], [], [], noW (_), false, [], []⟩, ⟨66, [4, 6], [], [], noW (_), false, [], []⟩, ⟨67, [7], [], [], noW (_), false, [], []⟩, ⟨68, [8], [], [], noW (_), false, [], []⟩, ⟨69, [9], [3], [], fun w => DetW _ _, true, [], []⟩, ⟨70, [], [], [], noW (_), false, [], []⟩, ⟨71, [11], [], [], noW (_), false, [], []⟩, ⟨72, [12], [10], [], fun w => DetW _ _, false, [], []⟩]) [] [4, 3, 1] [⟨59, [], [], false, [], []⟩, ⟨60, [], [], false, [], []⟩, ⟨61, [1], [], false, [], []⟩, ⟨62, [], [], true, [], []⟩, ⟨63, [], [], false, [], []⟩, ⟨64, [], [], false, [], []⟩, ⟨65, [5], [], false, [], []⟩, ⟨66, [4, 6], [], false, [], []⟩, ⟨67, [7], [], false, [], []⟩, ⟨68, [8], [], false, [], []⟩, ⟨69, [9], [3], true, [], []⟩, ⟨70, [], [], false, [], []⟩, ⟨71, [11], [], false, [], []⟩, ⟨72, [12], [10], false, [], []⟩] [[], [], [], [], [], [], [], [], [], [], [3], [], [], [3, 10]] [[], [], [], [], [], [], [], [], [], [], [], [], [], []] tMixxb (fun _ => by rfl) (fun _ => by rfl) (by kernel_rfl) (by kernel_rfl) (by rfl) (by rfl)
            (fun β => ⟨.p rfl (by intro X; exact op_move rfl),
            ⟨.p rfl (by intro X; exact op_move rfl),
            ⟨.p rfl (by intro X; rintro _ _ ⟨rfl, rfl⟩; exact op_val (v' := .int .i64 ((B.length : Int) - 1)) (by congr 1; omega) (op_sub' rfl rfl (by omega))),
            ⟨.px rfl (by intro X; refine OpT.mono (op_lit0 (enc := encT) (lab := 62) tS35xb) ?_; rintro _ _ ⟨a62, c62, rfl, rfl⟩; obtain ⟨w, rfl, rfl⟩ : ∃ w : Wt, w.a = a62 ∧ w.c = c62 := ⟨{ a := a62, c := c62 }, rfl, rfl⟩; exact ⟨w, rfl, rfl⟩),
            ⟨.p rfl (by intro X; exact op_move rfl),
            ⟨.p rfl (by intro X; exact op_move rfl),
            ⟨.p rfl (by intro X; rintro _ _ ⟨rfl, rfl⟩; exact op_val (v' := .int .i64 ((B.length : Int) - 1)) (by congr 1; omega) (op_sub' rfl rfl (by omega))),
            ⟨.p rfl (by intro X; rintro _ _ ⟨rfl, rfl⟩ _ _ ⟨rfl, rfl⟩; exact op_idxZ (l := (B.set ((B.length : Int) - 1).toNat (⟨y.num, y.grp + 1, y.q, y.cq, y.recs⟩ : SegV))) rfl rfl tS50xb (Sl.ent (Sl.lab (E := 96) (enc := encSegV) (l := (B.set ((B.length : Int) - 1).toNat (⟨y.num, y.grp + 1, y.q, y.cq, y.recs⟩ : SegV))) 47 rfl (by rw [hB1l]; unfold maxLen; omega))) (by omega) (by rw [hB1l]; omega)),
            ⟨.p rfl (by intro X; rintro _ _ ⟨rfl, rfl⟩; exact op_fieldAddr (off := 2) rfl tF96_2xb),
            ⟨.p rfl (by intro X; rintro _ _ ⟨rfl, rfl⟩; exact op_ldxf rfl tO35xb (Sl.lab (E := 96) (enc := encSegV) (l := (B.set ((B.length : Int) - 1).toNat (⟨y.num, y.grp + 1, y.q, y.cq, y.recs⟩ : SegV))) 47 rfl (by rw [hB1l]; unfold maxLen; omega)) hy1 (by rfl)),
            ⟨.px rfl (by intro X; rintro _ _ ⟨rfl, rfl⟩ _ _ ⟨rfl, rfl⟩; show OpT _ _ _ _ _ _ [(_, _)] _; refine OpT.mono (op_append (lab := 62) (lab' := 69) rfl rfl tP35xb enc1T (Sl.app (Sl.app hyr X) _) (by simp; omega) (by simp; omega)) ?_; rintro _ _ ⟨a69, c69, rfl, rfl⟩; obtain ⟨w, rfl, rfl⟩ : ∃ w : Wt, w.a = a69 ∧ w.c = c69 := ⟨{ a := a69, c := c69 }, rfl, rfl⟩; exact ⟨w, rfl, rfl⟩),
            ⟨.p rfl (by intro X; exact op_fieldAddr (off := 2) rfl tF52_2xb),
            ⟨.p rfl (by intro X; rintro _ _ ⟨rfl, rfl⟩; exact op_load1 rfl tO35xb (Ent.lab (l := 1) rfl (says_cel 2))),
            ⟨.px rfl (by intro X; rintro _ _ ⟨rfl, rfl⟩ _ _ ⟨rfl, rfl⟩; show OpT _ _ _ _ _ _ [(_, _)] _; refine OpT.mono (op_append (lab := 69) (lab' := 72) rfl rfl tP35xb enc1T (Sl.app (Sl.app hP X) _) (by simp; omega) (by simp; omega)) ?_; rintro _ _ ⟨a72, c72, rfl, rfl⟩; obtain ⟨w, rfl, rfl⟩ : ∃ w : Wt, w.a = a72 ∧ w.c = c72 := ⟨{ a := a72, c := c72 }, rfl, rfl⟩; exact ⟨w, rfl, rfl⟩),
            trivial⟩⟩⟩⟩⟩⟩⟩⟩⟩⟩⟩⟩⟩⟩)
            (fun β β' => ⟨fun _ => by rfl, ⟨fun _ => by rfl, ⟨fun _ => by rfl, ⟨fun _ => by rfl, ⟨fun _ => by rfl, ⟨fun _ => by rfl, ⟨fun _ => by rfl, ⟨fun _ => by rfl, ⟨fun _ => by rfl, ⟨fun _ => by rfl, ⟨fun h => by first | rfl | (simp only [h 3 (by decide)]), ⟨fun _ => by rfl, ⟨fun _ => by rfl, ⟨fun h => by first | rfl | (simp only [h 3 (by decide), h 10 (by decide)]), trivial⟩⟩⟩⟩⟩⟩⟩⟩⟩⟩⟩⟩⟩⟩) ?_
        intro β
        rintro _ _ ⟨rfl, rfl⟩ _ _ ⟨rfl, rfl⟩ _ _ ⟨rfl, rfl⟩ _ _ ⟨rfl, rfl⟩ _ _ ⟨rfl, rfl⟩ _ _ ⟨rfl, rfl⟩ _ _ ⟨rfl, rfl⟩ _ _ ⟨rfl, rfl⟩ _ _ ⟨rfl, rfl⟩ _ _ ⟨rfl, rfl⟩ _ _ ⟨rfl, rfl⟩ _ _ ⟨rfl, rfl⟩ _ _ ⟨rfl, rfl⟩ _ _ ⟨rfl, rfl⟩
        generalize (β 3).a = a62
        generalize (β 3).c = c62
        generalize (β 10).a = a69
        generalize (β 10).c = c69
        generalize (β 13).a = a72
        generalize (β 13).c = c72
        refine wl_norm (e' := [(1, _), (2, _), (4, _), (59, _), (61, _), (72, _)]) (.cons rfl (.cons rfl (.cons rfl (.cons rfl (.cons rfl (.cons rfl (.nil _))))))) (by dsimp only [cond_false, cond_true, List.nil_append, List.cons_append]) ?_
        refine zd rfl (op_idxZ (l := (B.set ((B.length : Int) - 1).toNat (⟨y.num, y.grp + 1, y.q, y.cq, y.recs⟩ : SegV))) rfl rfl tS50xb (Sl.ent (Sl.lab (E := 96) (enc := encSegV) (l := (B.set ((B.length : Int) - 1).toNat (⟨y.num, y.grp + 1, y.q, y.cq, y.recs⟩ : SegV))) 47 rfl (by rw [hB1l]; unfold maxLen; omega))) (by omega) (by rw [hB1l]; omega)) ?_
        refine zd rfl (op_fieldAddr (off := 2) rfl tF96_2xb) (wl_op0 [47] rfl rfl rfl (op_storeX (lab := 47) (j := 2) (b' := ⟨y.num, y.grp + 1, a72, c72, y.recs ++ pend⟩) rfl rfl tO35xb rfl rfl (by rfl) hy1 (Nat.le_of_ble_eq_true rfl) (by rfl)) ?_)
        rintro _ _ ⟨rfl, rfl⟩
        refine wl_nil (st_tn (w_seq (w_region (zm rfl (zd rfl (op_fieldAddr (off := 0) rfl tF52_0xb) (wl_op0 [1] rfl rfl rfl (op_store rfl rfl tZ50xb (by rfl) (by rfl) (by exact Nat.le_of_ble_eq_true rfl)) ?_))))))
        rintro _ _ ⟨rfl, rfl⟩
        refine zd rfl (op_fieldAddr (off := 2) rfl tF52_2xb) (wl_op0 [1] rfl rfl rfl (op_store rfl rfl tZ35xb (by rfl) (by rfl) (by exact Nat.le_of_ble_eq_true rfl)) ?_)
        rintro _ _ ⟨rfl, rfl⟩
        refine zd rfl (op_fieldAddr (off := 3) rfl tF52_3xb) (wl_op0 [1] rfl rfl rfl (op_store rfl rfl tZ4xb (by rfl) (by rfl) (by exact Nat.le_of_ble_eq_true rfl)) ?_)
        rintro _ _ ⟨rfl, rfl⟩
        refine wl_nil (st_tn (w_seq (w_region (zd rfl (op_loadA rfl tA52xb (Ent.lab (l := 1) rfl (says_cel 0)) (Nat.le_of_ble_eq_true rfl)) (wl_op0 [2] rfl rfl rfl (op_store rfl rfl tZ52xb (by rfl) (by rfl) (by exact Nat.le_of_ble_eq_true rfl)) ?_)))))
        rintro _ _ ⟨rfl, rfl⟩
        refine wl_nil (st_tn (w_ret (st_ret (vs := [_]) [47, 72] Try.results56 ⟨⟨_, rfl, Ent.mono (Ent.lab (l := 2) rfl (says_cel 0)) (fun _ h => run_load_agg tA52xb h (Nat.le_of_ble_eq_true rfl))⟩, trivial⟩ rfl ?_)))
        refine ⟨[(lab1, _), (lab2, _)], rfl, ?_⟩
        skip
        refine ⟨a47, c47, a72, c72, ?_⟩
        obtain ⟨S, hS, hset⟩ := set_last (z := (⟨y.num, y.grp + 1, y.q, y.cq, y.recs⟩ : SegV)) (w := (⟨y.num, y.grp + 1, a72, c72, y.recs ++ pend⟩ : SegV)) hy
        rw [hset]
        have e1 : noteX Y o pend a72 c72 = S ++ [(⟨y.num, y.grp + 1, a72, c72, y.recs ++ pend⟩ : SegV)] := by
          obtain ⟨e2, e3⟩ := List.append_inj' (hB.symm.trans hS) rfl
          subst e2
          rw [hy0 y hy]
          unfold noteX; rw [hlast]; dsimp only; rw [if_pos (.inr (by omega))]; rfl
        have e4 : recsN Y o pend = y.recs ++ pend := by rw [hy0 y hy]; unfold recsN; rw [hlast]; dsimp only; rw [if_pos (.inr (by omega))]; rfl
        have e5 : B.length = (noteX Y o pend a72 c72).length := by rw [e1, hS]; simp
        rw [← e1, e4, e5]; exact ⟨rfl, rfl⟩
      · -- hg-
        refine w_region (zm rfl (zd rfl (op_val (v' := .bool false) (by rw [decide_eq_false (by omega)]) (op_eql rfl rfl)) ?_))
        refine zm rfl (wl_wanted_det rfl rfl rfl rfl rfl rfl rfl (op_fieldAddr (off := 3) rfl tF52_3xb) (wl_wanted_det rfl rfl rfl rfl rfl rfl rfl (op_val (v' := .bool false) (by rw [ho]) (op_load1 rfl tO4xb (Ent.lab (l := 1) rfl (says_cel 3)))) ?_))
        refine zd rfl (op_pick_f rfl rfl) (zm rfl (wl_wanted_det rfl rfl rfl rfl rfl rfl rfl (op_move rfl) (wl_wanted_det rfl rfl rfl rfl rfl rfl rfl (op_move rfl) (wl_wanted_det rfl rfl rfl rfl rfl rfl rfl (op_sub' rfl rfl (by omega)) ?_))))
        refine wl_wanted_det rfl rfl rfl rfl rfl rfl rfl (op_idxZ rfl rfl tS50xb (Sl.ent (Sl.lab 17 rfl (by first | (unfold maxLen; omega) | (unfold maxLen; simp; omega)))) (by omega) (by omega)) ?_
        refine wl_wanted_det rfl rfl rfl rfl rfl rfl rfl (op_fieldAddr (off := 1) rfl tF96_1xb) (wl_wanted_det rfl rfl rfl rfl rfl rfl rfl (op_ldxf rfl tO3xb (Sl.lab 17 rfl (by first | (unfold maxLen; omega) | (unfold maxLen; simp; omega))) (by assumption) (by rfl)) ?_)
        refine wl_wanted_det rfl rfl rfl rfl rfl rfl rfl (op_val (v' := .bool false) (by rw [decide_eq_false (by omega)]) (op_geq rfl rfl)) ?_
        refine zd rfl (op_pick_f rfl rfl) (wl_nil (st_tn (w_cond_f (rfl) ?_)))
        refine w_skip (st_tn (w_seq ?_))
        skip
        obtain ⟨y, hy⟩ := getE (l := Y) (i := ((Y.length : Int) - 1).toNat) (by omega)
        have hyr : Sl σ F encT 1 (.slice y.q y.recs.length y.cq) y.recs := hR y (List.mem_of_getElem? hy)
        have hyb : y.grp ≤ 1000000 ∧ y.recs.length ≤ 1000000 := by have := hb y (List.mem_of_getElem? hy); omega
        have hB1l : (Y.set ((Y.length : Int) - 1).toNat (⟨y.num, y.grp + 1, y.q, y.cq, y.recs⟩ : SegV)).length = Y.length := List.length_set ..
        have hy1 : (Y.set ((Y.length : Int) - 1).toNat (⟨y.num, y.grp + 1, y.q, y.cq, y.recs⟩ : SegV))[((Y.length : Int) - 1).toNat]? = some (⟨y.num, y.grp + 1, y.q, y.cq, y.recs⟩ : SegV) := List.getElem?_set_self (by omega)
        refine w_region (zm rfl (zm rfl (zd rfl (op_val (v' := .int .i64 ((Y.length : Int) - 1)) (by rfl) (op_sub' rfl rfl (by omega))) ?_)))
        refine zd rfl (op_idxZ (l := Y) rfl rfl tS50xb (Sl.ent (Sl.lab (E := 96) (enc := encSegV) (l := Y) 17 rfl (by unfold maxLen; omega))) (by omega) (by omega)) ?_
        refine zd rfl (op_fieldAddr (off := 1) rfl tF96_1xb) (zd rfl (op_ldxf rfl tO3xb (Sl.lab (E := 96) (enc := encSegV) (l := Y) 17 rfl (by unfold maxLen; omega)) hy (by rfl)) ?_)
        refine zd rfl (op_add' rfl rfl (by omega)) ?_
        refine zd rfl (op_idxZ (l := Y) rfl rfl tS50xb (Sl.ent (Sl.lab (E := 96) (enc := encSegV) (l := Y) 17 rfl (by unfold maxLen; omega))) (by omega) (by omega)) ?_
        refine zd rfl (op_fieldAddr (off := 1) rfl tF96_1xb) (wl_op0 [17] rfl rfl rfl (op_storeX (lab := 17) (j := 1) (b' := ⟨y.num, y.grp + 1, y.q, y.cq, y.recs⟩) rfl rfl tO3xb rfl rfl (by rfl) hy (Nat.le_of_ble_eq_true rfl) (by rfl)) ?_)
        rintro _ _ ⟨rfl, rfl⟩
        refine wl_nil (st_tn (w_seq ?_))
        refine w_drawW (fun β => [⟨59, [], [], [], noW (_), false, [], []⟩, ⟨60, [], [], [], noW (_), false, [], []⟩, ⟨61, [1], [], [], noW (_), false, [], []⟩, ⟨62, [], [], [], fun w => DetW _ _, true, [], []⟩, ⟨63, [], [], [], noW (_), false, [], []⟩, ⟨64, [], [], [], noW (_), false, [], []⟩, ⟨65, [5], [], [], noW (_), false, [], []⟩, ⟨66, [4, 6], [], [], noW (_), false, [], []⟩, ⟨67, [7], [], [], noW (_), false, [], []⟩, ⟨68, [8], [], [], noW (_), false, [], []⟩, ⟨69, [9], [3], [], fun w => DetW _ _, true, [], []⟩, ⟨70, [], [], [], noW (_), false, [], []⟩, ⟨71, [11], [], [], noW (_), false, [], []⟩, ⟨72, [12], [10], [], fun w => DetW _ _, false, [], []⟩]) [] [4, 3, 1] [⟨59, [], [], false, [], []⟩, ⟨60, [], [], false, [], []⟩, ⟨61, [1], [], false, [], []⟩, ⟨62, [], [], true, [], []⟩, ⟨63, [], [], false, [], []⟩, ⟨64, [], [], false, [], []⟩, ⟨65, [5], [], false, [], []⟩, ⟨66, [4, 6], [], false, [], []⟩, ⟨67, [7], [], false, [], []⟩, ⟨68, [8], [], false, [], []⟩, ⟨69, [9], [3], true, [], []⟩, ⟨70, [], [], false, [], []⟩, ⟨71, [11], [], false, [], []⟩, ⟨72, [12], [10], false, [], []⟩] [[], [], [], [], [], [], [], [], [], [], [3], [], [], [3, 10]] [[], [], [], [], [], [], [], [], [], [], [], [], [], []] tMixxb (fun _ => by rfl) (fun _ => by rfl) (by kernel_rfl) (by kernel_rfl) (by rfl) (by rfl)
            (fun β => ⟨.p rfl (by intro X; exact op_move rfl),
            ⟨.p rfl (by intro X; exact op_move rfl),
            ⟨.p rfl (by intro X; rintro _ _ ⟨rfl, rfl⟩; exact op_val (v' := .int .i64 ((Y.length : Int) - 1)) (by rfl) (op_sub' rfl rfl (by omega))),
            ⟨.px rfl (by intro X; refine OpT.mono (op_lit0 (enc := encT) (lab := 62) tS35xb) ?_; rintro _ _ ⟨a62, c62, rfl, rfl⟩; obtain ⟨w, rfl, rfl⟩ : ∃ w : Wt, w.a = a62 ∧ w.c = c62 := ⟨{ a := a62, c := c62 }, rfl, rfl⟩; exact ⟨w, rfl, rfl⟩),
            ⟨.p rfl (by intro X; exact op_move rfl),
            ⟨.p rfl (by intro X; exact op_move rfl),
            ⟨.p rfl (by intro X; rintro _ _ ⟨rfl, rfl⟩; exact op_val (v' := .int .i64 ((Y.length : Int) - 1)) (by rfl) (op_sub' rfl rfl (by omega))),
            ⟨.p rfl (by intro X; rintro _ _ ⟨rfl, rfl⟩ _ _ ⟨rfl, rfl⟩; exact op_idxZ (l := (Y.set ((Y.length : Int) - 1).toNat (⟨y.num, y.grp + 1, y.q, y.cq, y.recs⟩ : SegV))) rfl rfl tS50xb (Sl.ent (Sl.lab (E := 96) (enc := encSegV) (l := (Y.set ((Y.length : Int) - 1).toNat (⟨y.num, y.grp + 1, y.q, y.cq, y.recs⟩ : SegV))) 17 rfl (by rw [hB1l]; unfold maxLen; omega))) (by omega) (by rw [hB1l]; omega)),
            ⟨.p rfl (by intro X; rintro _ _ ⟨rfl, rfl⟩; exact op_fieldAddr (off := 2) rfl tF96_2xb),
            ⟨.p rfl (by intro X; rintro _ _ ⟨rfl, rfl⟩; exact op_ldxf rfl tO35xb (Sl.lab (E := 96) (enc := encSegV) (l := (Y.set ((Y.length : Int) - 1).toNat (⟨y.num, y.grp + 1, y.q, y.cq, y.recs⟩ : SegV))) 17 rfl (by rw [hB1l]; unfold maxLen; omega)) hy1 (by rfl)),
            ⟨.px rfl (by intro X; rintro _ _ ⟨rfl, rfl⟩ _ _ ⟨rfl, rfl⟩; show OpT _ _ _ _ _ _ [(_, _)] _; refine OpT.mono (op_append (lab := 62) (lab' := 69) rfl rfl tP35xb enc1T (Sl.app (Sl.app hyr X) _) (by simp; omega) (by simp; omega)) ?_; rintro _ _ ⟨a69, c69, rfl, rfl⟩; obtain ⟨w, rfl, rfl⟩ : ∃ w : Wt, w.a = a69 ∧ w.c = c69 := ⟨{ a := a69, c := c69 }, rfl, rfl⟩; exact ⟨w, rfl, rfl⟩),
            ⟨.p rfl (by intro X; exact op_fieldAddr (off := 2) rfl tF52_2xb),
            ⟨.p rfl (by intro X; rintro _ _ ⟨rfl, rfl⟩; exact op_load1 rfl tO35xb (Ent.lab (l := 1) rfl (says_cel 2))),
            ⟨.px rfl (by intro X; rintro _ _ ⟨rfl, rfl⟩ _ _ ⟨rfl, rfl⟩; show OpT _ _ _ _ _ _ [(_, _)] _; refine OpT.mono (op_append (lab := 69) (lab' := 72) rfl rfl tP35xb enc1T (Sl.app (Sl.app hP X) _) (by simp; omega) (by simp; omega)) ?_; rintro _ _ ⟨a72, c72, rfl, rfl⟩; obtain ⟨w, rfl, rfl⟩ : ∃ w : Wt, w.a = a72 ∧ w.c = c72 := ⟨{ a := a72, c := c72 }, rfl, rfl⟩; exact ⟨w, rfl, rfl⟩),
            trivial⟩⟩⟩⟩⟩⟩⟩⟩⟩⟩⟩⟩⟩⟩)
            (fun β β' => ⟨fun _ => by rfl, ⟨fun _ => by rfl, ⟨fun _ => by rfl, ⟨fun _ => by rfl, ⟨fun _ => by rfl, ⟨fun _ => by rfl, ⟨fun _ => by rfl, ⟨fun _ => by rfl, ⟨fun _ => by rfl, ⟨fun _ => by rfl, ⟨fun h => by first | rfl | (simp only [h 3 (by decide)]), ⟨fun _ => by rfl, ⟨fun _ => by rfl, ⟨fun h => by first | rfl | (simp only [h 3 (by decide), h 10 (by decide)]), trivial⟩⟩⟩⟩⟩⟩⟩⟩⟩⟩⟩⟩⟩⟩) ?_
        intro β
        rintro _ _ ⟨rfl, rfl⟩ _ _ ⟨rfl, rfl⟩ _ _ ⟨rfl, rfl⟩ _ _ ⟨rfl, rfl⟩ _ _ ⟨rfl, rfl⟩ _ _ ⟨rfl, rfl⟩ _ _ ⟨rfl, rfl⟩ _ _ ⟨rfl, rfl⟩ _ _ ⟨rfl, rfl⟩ _ _ ⟨rfl, rfl⟩ _ _ ⟨rfl, rfl⟩ _ _ ⟨rfl, rfl⟩ _ _ ⟨rfl, rfl⟩ _ _ ⟨rfl, rfl⟩
        generalize (β 3).a = a62
        generalize (β 3).c = c62
        generalize (β 10).a = a69
        generalize (β 10).c = c69
        generalize (β 13).a = a72
        generalize (β 13).c = c72
        refine wl_norm (e' := [(1, _), (2, _), (4, _), (59, _), (61, _), (72, _)]) (.cons rfl (.cons rfl (.cons rfl (.cons rfl (.cons rfl (.cons rfl (.nil _))))))) (by dsimp only [cond_false, cond_true, List.nil_append, List.cons_append]) ?_
        refine zd rfl (op_idxZ (l := (Y.set ((Y.length : Int) - 1).toNat (⟨y.num, y.grp + 1, y.q, y.cq, y.recs⟩ : SegV))) rfl rfl tS50xb (Sl.ent (Sl.lab (E := 96) (enc := encSegV) (l := (Y.set ((Y.length : Int) - 1).toNat (⟨y.num, y.grp + 1, y.q, y.cq, y.recs⟩ : SegV))) 17 rfl (by rw [hB1l]; unfold maxLen; omega))) (by omega) (by rw [hB1l]; omega)) ?_
        refine zd rfl (op_fieldAddr (off := 2) rfl tF96_2xb) (wl_op0 [17] rfl rfl rfl (op_storeX (lab := 17) (j := 2) (b' := ⟨y.num, y.grp + 1, a72, c72, y.recs ++ pend⟩) rfl rfl tO35xb rfl rfl (by rfl) hy1 (Nat.le_of_ble_eq_true rfl) (by rfl)) ?_)
        rintro _ _ ⟨rfl, rfl⟩
        refine wl_nil (st_tn (w_seq (w_region (zm rfl (zd rfl (op_fieldAddr (off := 0) rfl tF52_0xb) (wl_op0 [1] rfl rfl rfl (op_store rfl rfl tZ50xb (by rfl) (by rfl) (by exact Nat.le_of_ble_eq_true rfl)) ?_))))))
        rintro _ _ ⟨rfl, rfl⟩
        refine zd rfl (op_fieldAddr (off := 2) rfl tF52_2xb) (wl_op0 [1] rfl rfl rfl (op_store rfl rfl tZ35xb (by rfl) (by rfl) (by exact Nat.le_of_ble_eq_true rfl)) ?_)
        rintro _ _ ⟨rfl, rfl⟩
        refine zd rfl (op_fieldAddr (off := 3) rfl tF52_3xb) (wl_op0 [1] rfl rfl rfl (op_store rfl rfl tZ4xb (by rfl) (by rfl) (by exact Nat.le_of_ble_eq_true rfl)) ?_)
        rintro _ _ ⟨rfl, rfl⟩
        refine wl_nil (st_tn (w_seq (w_region (zd rfl (op_loadA rfl tA52xb (Ent.lab (l := 1) rfl (says_cel 0)) (Nat.le_of_ble_eq_true rfl)) (wl_op0 [2] rfl rfl rfl (op_store rfl rfl tZ52xb (by rfl) (by rfl) (by exact Nat.le_of_ble_eq_true rfl)) ?_)))))
        rintro _ _ ⟨rfl, rfl⟩
        refine wl_nil (st_tn (w_ret (st_ret (vs := [_]) [17, 72] Try.results56 ⟨⟨_, rfl, Ent.mono (Ent.lab (l := 2) rfl (says_cel 0)) (fun _ h => run_load_agg tA52xb h (Nat.le_of_ble_eq_true rfl))⟩, trivial⟩ rfl ?_)))
        refine ⟨[(lab1, _), (lab2, _)], rfl, ?_⟩
        skip
        refine ⟨a17, c17, a72, c72, ?_⟩
        obtain ⟨S, hS, hset⟩ := set_last (z := (⟨y.num, y.grp + 1, y.q, y.cq, y.recs⟩ : SegV)) (w := (⟨y.num, y.grp + 1, a72, c72, y.recs ++ pend⟩ : SegV)) hy
        rw [hset]
        have hyx : y = x := by rw [hx] at hy; simpa using hy.symm
        have e1 : noteX Y o pend a72 c72 = S ++ [(⟨y.num, y.grp + 1, a72, c72, y.recs ++ pend⟩ : SegV)] := by
          unfold noteX; rw [hlast]; dsimp only
          rw [if_neg (fun h => h.elim (fun h => by rw [ho] at h; simp at h) (fun h => by omega)), hyx, hS, List.dropLast_concat]
        have e4 : recsN Y o pend = y.recs ++ pend := by
          unfold recsN; rw [hlast]; dsimp only
          rw [if_neg (fun h => h.elim (fun h => by rw [ho] at h; simp at h) (fun h => by omega)), hyx]
        have e5 : Y.length = (noteX Y o pend a72 c72).length := by rw [e1, hS]; simp
        rw [← e1, e4, ← e5]; exact ⟨rfl, rfl⟩
end Go.Proofs.Ytcbigmgakdanjaa
namespace Go.Proofs.Ytcbigmgakdanjaa
open Go Go.SL Go.RowKit Go.RdM Go.WalM
set_option linter.unusedVariables false
set_option linter.unusedSimpArgs false
theorem tMixxc : Try.prog.follows .mixedOrders = true := by kernel_rfl
theorem tS73xc : sliceB Try.prog 73 87 4 = true := by kernel_rfl
theorem tP73xc : appB Try.prog 73 87 4 32 = true := by kernel_rfl
theorem z87 : (Try.prog.info? 87).bind (fun i => i.zero.map fun z => (Builtin.zeroCells z.cells 1).toList) = some [.int .i64 0, .int .i64 0, .int .i64 0, .int .i64 0] := by kernel_rfl
theorem z87' : ∀ i z, Try.prog.info? 87 = some i → i.zero = some z → (Builtin.zeroCells z.cells 1).toList = [.int .i64 0, .int .i64 0, .int .i64 0, .int .i64 0] := fun i z hi hz => by
  have h := z87
  rw [hi] at h
  simp only [Option.bind_some, hz, Option.map_some, Option.some.injEq] at h
  exact h
set_option maxHeartbeats 400000 in
set_option maxRecDepth 100000 in
theorem del_at {σ : World} {F : List Res} {g c : Nat} {R : List Row} (hR : 2 ≤ R.length) (hc : R.length ≤ c) (hm : R.length ≤ 1099511627776) :
    FnT Try.prog σ F 59 [.slice (some ⟨g, 0, none⟩) R.length c, .int .i64 0, .int .i64 1] [(612, slW 87 encRow 4 (.slice (some ⟨g, 0, none⟩) R.length c) R)] (fun u ρ => u = .slice (some ⟨g, 0, none⟩) (R.drop 1).length c ∧ ρ = [(612, slW 87 encRow 4 (.slice (some ⟨g, 0, none⟩) (R.drop 1).length c) (R.drop 1))]) := by
  refine fn_of 33 Try.func59 rfl Try.ntmps59 rfl ?_
  have hdl : (R.drop 1).length = R.length - 1 := List.length_drop ..
  refine w_seq (w_region (za rfl (wl_nil (st_tn (w_seq (w_region (zm rfl (zm rfl (zm rfl (zm rfl (zd rfl (op_lenT rfl tS73xc (Sl.ent (Sl.lab 612 rfl (by first | (unfold maxLen; omega) | (rw [hdl]; unfold maxLen; omega))))) ?_)))))))))))
  refine zd rfl (op_slice3 (lo := 0) (hi := 1) (l := R) rfl rfl rfl rfl tS73xc (Sl.lab (E := 87) (enc := encRow) (l := R) 612 rfl (by unfold maxLen; omega)) (by omega) (by omega) (Nat.le_refl _)) ?_
  refine wl_nil (st_tn (w_seq (w_seq (w_region (zm rfl (zm rfl (zd rfl (op_val (v' := .bool false) (by rfl) (op_eql rfl rfl)) ?_)))))))
  refine wl_nil (st_tn (w_cond_f (rfl) ?_))
  refine w_skip (st_tn (w_seq (w_region (zm rfl (zd rfl (op_lenT rfl tS73xc (Sl.ent (Sl.lab 612 rfl (by first | (unfold maxLen; omega) | (rw [hdl]; unfold maxLen; omega))))) ?_)))))
  refine za rfl (wl_nil (st_tn (w_seq ?_)))
  refine w_draw (D := [⟨20, [], [], [], _, false, [], []⟩, ⟨21, [], [], [], _, false, [], []⟩, ⟨22, [0, 1], [], [], _, false, [], []⟩, ⟨23, [], [], [], _, false, [], []⟩, ⟨24, [], [], [], _, false, [], []⟩, ⟨25, [3, 4], [], [], _, false, [], []⟩]) [] [0, 1, 2] [⟨20, [], [], false, [], []⟩, ⟨21, [], [], false, [], []⟩, ⟨22, [0, 1], [], false, [], []⟩, ⟨23, [], [], false, [], []⟩, ⟨24, [], [], false, [], []⟩, ⟨25, [3, 4], [], false, [], []⟩] tMixxc (by rfl) (by kernel_rfl) (by rfl) (by rfl)
      ⟨.plain rfl (by intro X; exact op_move rfl),
      ⟨.plain rfl (by intro X; exact op_move rfl),
      ⟨.plain rfl (by intro X; rintro _ _ ⟨rfl, rfl⟩ _ _ ⟨rfl, rfl⟩; exact op_val (v' := .slice (some ⟨g, 0, none⟩) 0 c) (by (have hc0 : ¬ c = 0 := by omega); (simp [SL.sub, hc0, Addr.add_mid])) (op_sliceR (hi := 0) (l := R) rfl rfl tS73xc (Sl.lab (E := 87) (enc := encRow) (l := R) 612 rfl (by unfold maxLen; omega)) (by omega))),
      ⟨.plain rfl (by intro X; exact op_move rfl),
      ⟨.plain rfl (by intro X; exact op_move rfl),
      ⟨.plain rfl (by intro X; rintro _ _ ⟨rfl, rfl⟩ _ _ ⟨rfl, rfl⟩; exact op_val (v' := .slice (some ⟨g, 4, none⟩) (R.length - 1) (c - 1)) (by (have hc1 : ¬ c = 1 := by omega); (simp [SL.sub, hc1, Addr.add_mid])) (op_sliceL (lo := 1) (l := R) rfl rfl tS73xc (Sl.lab (E := 87) (enc := encRow) (l := R) 612 rfl (by unfold maxLen; omega)) (by omega))),
      trivial⟩⟩⟩⟩⟩⟩ ?_
  rintro _ _ ⟨rfl, rfl⟩ _ _ ⟨rfl, rfl⟩ _ _ ⟨rfl, rfl⟩ _ _ ⟨rfl, rfl⟩ _ _ ⟨rfl, rfl⟩ _ _ ⟨rfl, rfl⟩
  refine wl_norm (e' := [(7, _), (22, _), (25, _)]) (.cons rfl (.cons rfl (.cons rfl (.nil _)))) (by dsimp only [cond_false, cond_true, List.nil_append, List.cons_append]) ?_
  refine wl_op [612] rfl rfl rfl rfl (op_shift (lab := 612) (R := R) rfl rfl tP73xc enc1Row (by omega)) ?_
  rintro _ _ ⟨rfl, rfl⟩
  refine za rfl (wl_nil (st_tn (w_seq (w_region (zm rfl (zm rfl (zd rfl (op_lenT (enc := encRow) (l := R.drop 1) rfl tS73xc (Sl.ent (Sl.lab (E := 87) (enc := encRow) (l := R.drop 1) 612 rfl (by rw [hdl]; unfold maxLen; omega)))) ?_)))))))
  refine zd rfl (op_val (v' := .int .i64 (((R.drop 1).length + 1 : Nat) : Int)) (by rw [hdl, show R.length - 1 + 1 = R.length by omega]) (op_move rfl)) ?_
  refine zd rfl (op_reslice (m := (R.drop 1).length) rfl rfl rfl tS73xc (by omega)) ?_
  refine wl_op0 [612] rfl rfl rfl (op_clear1 (lab := 612) (R := R.drop 1) (m := (R.drop 1).length) rfl tP73xc enc1Row rfl (by omega) (by omega) z87' (by decide) rfl) ?_
  rintro _ _ ⟨rfl, rfl⟩
  refine wl_nil (st_tn (w_seq (w_region (zm rfl (za rfl (wl_nil (st_tn (w_ret (st_ret (vs := [_]) [612] Try.results59 ⟨rfl, trivial⟩ rfl ?_)))))))))
  refine ⟨[(612, _)], rfl, ?_⟩
  exact ⟨rfl, rfl⟩
end Go.Proofs.Ytcbigmgakdanjaa
namespace Go.Proofs.Ytcbigmgakdanjaa
open Go Go.SL Go.RowKit Go.RdM Go.WalM
set_option linter.unusedVariables false
set_option linter.unusedSimpArgs false
theorem tA87xd : aggB Try.prog 87 4 = true := by kernel_rfl
theorem tF76_0xd : fieldB Try.prog 76 0 0 = true := by kernel_rfl
theorem tF76_2xd : fieldB Try.prog 76 2 2 = true := by kernel_rfl
theorem tF76_3xd : fieldB Try.prog 76 3 3 = true := by kernel_rfl
theorem tF87_0xd : fieldB Try.prog 87 0 0 = true := by kernel_rfl
theorem tF87_1xd : fieldB Try.prog 87 1 1 = true := by kernel_rfl
theorem tF87_2xd : fieldB Try.prog 87 2 2 = true := by kernel_rfl
theorem tMixxd : Try.prog.follows .mixedOrders = true := by kernel_rfl
theorem tN87xd : (Try.prog.info? 87).bind (·.zero) = some (Value.agg #[Value.int .i64 0, Value.int .i64 0, Value.int .i64 0, Value.int .i64 0]) := by kernel_rfl
theorem tO22xd : oneB Try.prog 22 = true := by kernel_rfl
theorem tO3xd : oneB Try.prog 3 = true := by kernel_rfl
theorem tO73xd : oneB Try.prog 73 = true := by kernel_rfl
theorem tO74xd : oneB Try.prog 74 = true := by kernel_rfl
theorem tQ74xd : mapB Try.prog 74 3 9 KZ.desc := ⟨Try.underlying74, Try.underlying3⟩
theorem tS73xd : sliceB Try.prog 73 87 4 = true := by kernel_rfl
theorem tZ73xd : (Try.prog.info? 73).map (·.size) = some 1 := by kernel_rfl
theorem tZ87xd : (Try.prog.info? 87).map (·.size) = some 4 := by kernel_rfl
abbrev SgL := List Sg
abbrev StE := DskM.St
theorem delK_len {l : List (Int × List UInt8)} {k : Int} (h : (lookK KZ l k).isSome = true) : (delK KZ l k).length + 1 = l.length := by
  induction l with
  | nil => simp [lookK] at h
  | cons q l ih =>
    unfold lookK at h
    unfold delK
    cases hq : KZ.eq k q.1 with
    | true => simp
    | false =>
      rw [hq] at h
      simp only [cond_false] at h ⊢
      have := ih h
      simp only [List.length_cons]; omega
theorem delK_sub {l : List (Int × List UInt8)} {k : Int} : (delK KZ l k).Sublist l := by
  induction l with
  | nil => exact List.Sublist.slnil
  | cons q l ih =>
    unfold delK
    cases hq : KZ.eq k q.1 with
    | true => exact List.sublist_cons_self _ _
    | false => exact ih.cons_cons _
theorem IsMap.del {l : List (Int × List UInt8)} {f : Nat} {x : RdM.Bs} {all : List RdM.Bs} (h : IsMap l f (x :: all)) : IsMap (delK KZ l (f : Int)) (f + 1) all := by
  obtain ⟨h1, h2, h3⟩ := h
  have hs : (lookK KZ l (f : Int)).isSome = true := by rw [h3, if_pos (Int.le_refl _)]; simp
  refine ⟨List.Nodup.sublist (List.Sublist.map _ delK_sub) h1, by have := delK_len hs; simp only [List.length_cons] at h2; omega, fun k => ?_⟩
  rw [look_del h1]
  by_cases hk : k = (f : Int)
  · have : KZ.eq k (f : Int) = true := by show (k == (f : Int)) = true; simpa using hk
    rw [this, cond_true, if_neg (by omega)]
  · have : KZ.eq k (f : Int) = false := by show (k == (f : Int)) = false; simpa using hk
    rw [this, cond_false, h3]
    by_cases h4 : ((f + 1 : Nat) : Int) ≤ k
    · rw [if_pos (by omega), if_pos h4]
      have e : (k - f).toNat = (k - ((f + 1 : Nat) : Int)).toNat + 1 := by omega
      rw [e, List.getElem?_cons_succ]
    · rw [if_neg (by omega), if_neg h4]
def truncG (nm : RdM.Bs) : Nat → List Sg → Int → DskM.St → Int × Nat × List Sg × DskM.St
  | f, x :: y :: l, n, s => if (f : Int) + x.recs.length - 1 ≤ n then
      (if (DskM.remO s (fileN nm x.num)).1 ≠ 0 then ((DskM.remO s (fileN nm x.num)).1, f, x :: y :: l, (DskM.remO s (fileN nm x.num)).2) else truncG nm (f + x.recs.length) (y :: l) n (DskM.remO s (fileN nm x.num)).2)
    else (0, f, x :: y :: l, s)
  | f, l, _, s => (0, f, l, s)
def truncO (nm : RdM.Bs) (L : Lg) (s : DskM.St) (n : Int) : Int × Lg × DskM.St :=
  if L.broken = true then (18, L, s)
  else ((truncG nm L.first L.segs n s).1, { L with first := (truncG nm L.first L.segs n s).2.1, segs := (truncG nm L.first L.segs n s).2.2.1, broken := decide ((truncG nm L.first L.segs n s).1 = 27) }, (truncG nm L.first L.segs n s).2.2.2)
theorem oks_tail {f : Nat} {x : Sg} {S : List Sg} (h : OkS f (x :: S)) (hS : S ≠ []) : OkS (f + x.recs.length) S := ⟨by have := h.pos; omega, fun h => absurd h hS, (List.pairwise_cons.1 h.inc).2, fun y hy => h.num y (by simp [hy]), fun y hy => h.grp y (by simp [hy])⟩
section
variable {P : Program} {σ : World} {n : Nat} {F : List Res} {e : Env} {R B0 : RL} {Q : Exit → Act → World → Prop}
theorem w_fact {c : Code} {φ : Prop} (lab : Nat) {r : Res} (ht : takeL R [lab] = some ([(lab, r)], B0)) (hφ : ∀ m, r m → φ) (k : φ → W P σ n c Q e R F) : W P σ n c Q e R F := fun a w hr hw => by
  have h1 : SL.Own σ (r :: (rs B0 ++ F)) w := by simpa [rs] using hw.take ht
  obtain ⟨m, hm, _⟩ := own_head h1
  exact k (hφ m hm) a w hr hw
end
theorem slO_fact {α : Type} {enc : α → List Value} {E k c : Nat} {a : Option Addr} {l : List α} (h : 0 < l.length) : ∀ m, slW E enc k (.slice a l.length c) l m → ∃ g, a = some ⟨g, 0, none⟩ ∧ l.length ≤ c := fun m hm => by
  obtain ⟨_, _, hv⟩ := hm
  rcases hv with ⟨_, hv⟩ | ⟨g, cap, cur, hv, _, h3, _⟩
  · have := congrArg List.length hv
    rw [List.length_map, List.length_nil] at this; omega
  · simp at hv
    obtain ⟨rfl, rfl⟩ := hv
    rw [List.length_map] at h3
    exact ⟨g, rfl, h3⟩
set_option maxHeartbeats 4000000 in
set_option maxRecDepth 100000 in
theorem ltrunc_any {σ : World} {F : List Res} {b d m c cp : Nat} {nm : RdM.Bs} {L : Lg} {a p : Option Addr} {l : List (Int × List UInt8)} {s : DskM.St} (n : Int) (hn : -9223372036854775808 ≤ n ∧ n ≤ 9223372036854775807) (hL : OkL L) (hg : DskM.Good s) (hnm : nm.length ≤ 48) (hm : IsMap l L.first (allR L.segs)) :
    FnT Try.prog σ F 34 [.pointer (some ⟨b, 0, none⟩), .int .i64 n] [(601, dkR d s), (611, cel b (cellL d nm (rawL L) m a c p cp) 76), (612, slW 87 encRow 4 (.slice a (rowsOf L.first L.segs).length c) (rowsOf L.first L.segs)), (613, mp KZ encSV m l), (614, slW 9 encT 1 (.slice p L.pend.length cp) L.pend)]
      (fun u ρ => ∃ i : LgT, IsMap i.2.2.2.2.2 (truncO nm L s n).2.1.first (allR (truncO nm L s n).2.1.segs) ∧ u = .int .i64 (truncO nm L s n).1 ∧ ρ = (601, dkR d (truncO nm L s n).2.2) :: cL b d nm (truncO nm L s n).2.1 i) := by
  refine fn_of 72 Try.func34 rfl Try.ntmps34 rfl ?_
  have hseg := hL.seg
  have hsz := hL.sz
  have hrl := hL.rowl
  refine w_seq (w_region (za rfl (wl_nil (st_tn (w_seq (w_seq (w_region (zm rfl (zd rfl (op_fn Try.func42 rfl rfl rfl (lready_any (v := rawL L) (celLg 611 rfl))) (za rfl (wl_nil (st_tn (w_seq ?_)))))))))))))
  refine w_region (zm rfl (zd rfl (op_neq rfl rfl) (wl_nil (st_tn (w_cond_d rfl (fun hc12 => ?_) (fun hc12 => ?_))))))
  · -- c12.t
    refine w_seq (w_region (zm rfl (za rfl (wl_nil (st_tn (w_ret (st_tr (st_ret (vs := [_]) [601, 611, 612, 613, 614] Try.results34 ⟨rfl, trivial⟩ rfl ?_))))))))
    refine ⟨[(601, _), (611, _), (612, _), (613, _), (614, _)], rfl, ?_⟩
    have hb : L.broken = true := ready_t hc12
    have h1 : truncO nm L s n = (18, L, s) := by unfold truncO; rw [if_pos hb]
    have h2 : readyL (rawL L) = 18 := by unfold readyL; rw [if_pos (show (rawL L).broken = true from hb)]
    rw [h1, h2]; exact ⟨(m, a, c, p, cp, l), hm, rfl, rfl⟩
  · -- c12.f
    have hb : L.broken = false := ready_f hc12
    have hbf : ¬ L.broken = true := by simp [hb]
    have htr : truncO nm L s n = ((truncG nm L.first L.segs n s).1, { L with first := (truncG nm L.first L.segs n s).2.1, segs := (truncG nm L.first L.segs n s).2.2.1, broken := decide ((truncG nm L.first L.segs n s).1 = 27) }, (truncG nm L.first L.segs n s).2.2.2) := by unfold truncO; rw [if_neg hbf]
    have hrw : rawL L = ⟨rowsOf L.first L.segs, L.pend, L.fresh, false⟩ := by unfold rawL; rw [hb]
    rw [hrw]
    refine w_skip (st_tn (w_seq (w_block ?_)))
    refine w_loopQ (X := Nat × SgL × StE × OA × Nat × List (Int × List UInt8)) (fun z => OkS z.1 z.2.1 ∧ DskM.Good z.2.2.1 ∧ truncG nm L.first L.segs n s = truncG nm z.1 z.2.1 n z.2.2.1 ∧ IsMap z.2.2.2.2.2 z.1 (allR z.2.1) ∧ z.1 + (allR z.2.1).length ≤ 1000000000000) (fun z => []) (fun z => [(613, mp KZ encSV m (z.2.2.2.2.2)), (601, dkR d (z.2.2.1)), (611, cel b (cellL d nm ⟨rowsOf (z.1) (z.2.1), L.pend, L.fresh, false⟩ m (z.2.2.2.1) (z.2.2.2.2.1) p cp) 76), (612, slW 87 encRow 4 (.slice (z.2.2.2.1) (rowsOf (z.1) (z.2.1)).length (z.2.2.2.2.1)) (rowsOf (z.1) (z.2.1)))]) (fun z => z.2.1.length) ((L.first, L.segs, s, a, c, l)) [(0, _), (1, _)] [(614, _)] [613, 601, 611, 612, 614] rfl (rfl) (.nil _) (.cons rfl (.cons rfl (.nil _))) (by
        try dsimp only
        exact ⟨hseg, hg, rfl, hm, hsz⟩) ?_
    rintro ⟨f1, S1, s1, a2, c2, D⟩ ⟨hS1, hg1, heq, hD, hz1⟩
    refine w_norm2 (by dsimp only [List.cons_append, List.nil_append]) (by dsimp only [List.cons_append, List.nil_append]) ?_
    try dsimp only at hS1 hg1 heq hD hz1 ⊢
    refine w_seq (w_seq ?_)
    have hr1 := rowsOf_len S1 f1
    have hSl := segs_le_all hS1.grp
    have hfp := hS1.pos
    obtain ⟨lst, hlst⟩ : ∃ lst : Int, lst = (f1 : Int) + ((S1.head?.map fun x => (x.recs.length : Int)).getD 0) - 1 := ⟨_, rfl⟩
    by_cases h1 : 1 < S1.length
    · -- h1+
      obtain ⟨x, y, S2, hS⟩ : ∃ x y S2, S1 = x :: y :: S2 := by
        match S1, h1 with
        | [], h1 => simp at h1
        | [x], h1 => simp at h1
        | x :: y :: S2, _ => exact ⟨x, y, S2, rfl⟩
      have hr0 : (rowsOf f1 S1)[0]? = some (x.num, f1, f1 + x.recs.length - 1, x.gs.length) := by rw [hS]; rfl
      have hl2 : lst = (f1 : Int) + x.recs.length - 1 := by rw [hlst, hS]; rfl
      have hxg := OkG.recs (hS1.grp x (by rw [hS]; simp))
      have hxn := hS1.num x (by rw [hS]; simp)
      have hall : allR S1 = x.recs ++ allR (y :: S2) := by rw [hS, allR_cons]
      have hxgl := gs_le (hS1.grp x (by rw [hS]; simp))
      by_cases h2 : lst ≤ n
      · -- h2+
        refine w_region (zm rfl (zd rfl (op_nilCheck rfl) (zd rfl (op_fieldAddr (off := 2) rfl tF76_2xd) (zd rfl (op_load1 rfl tO73xd (Ent.lab (l := 611) rfl (says_cel 2))) (zd rfl (op_lenT (enc := encRow) (l := rowsOf f1 S1) rfl tS73xd (Sl.ent (Sl.lab (E := 87) (enc := encRow) (l := rowsOf f1 S1) 612 rfl (by rw [hr1]; unfold maxLen; omega)))) ?_)))))
        refine zd rfl (op_val (v' := .bool true) (by rw [decide_eq_true (by omega)]) (op_gtr rfl rfl)) ?_
        refine zm rfl (wl_wanted_det rfl rfl rfl rfl rfl rfl rfl (op_move rfl) (wl_wanted_det rfl rfl rfl rfl rfl rfl rfl (op_nilCheck rfl) (wl_wanted_det rfl rfl rfl rfl rfl rfl rfl (op_fieldAddr (off := 2) rfl tF76_2xd) (wl_wanted_det rfl rfl rfl rfl rfl rfl rfl (op_load1 rfl tO73xd (Ent.lab (l := 611) rfl (says_cel 2))) (wl_wanted_det rfl rfl rfl rfl rfl rfl rfl (op_idx (i := 0) (l := rowsOf f1 S1) rfl rfl tS73xd (Sl.ent (Sl.lab (E := 87) (enc := encRow) (l := rowsOf f1 S1) 612 rfl (by rw [hr1]; unfold maxLen; omega))) (by omega)) ?_)))))
        refine wl_wanted_det rfl rfl rfl rfl rfl rfl rfl (op_fieldAddr (off := 2) rfl tF87_2xd) (wl_wanted_det rfl rfl rfl rfl rfl rfl rfl (op_ldxf rfl tO3xd (Sl.lab (E := 87) (enc := encRow) (l := rowsOf f1 S1) 612 rfl (by rw [hr1]; unfold maxLen; omega)) hr0 (by rfl)) ?_)
        refine wl_wanted_det rfl rfl rfl rfl rfl rfl rfl (op_move rfl) (wl_wanted_det rfl rfl rfl rfl rfl rfl rfl (op_val (v' := .bool true) (by rw [decide_eq_true]; show ((f1 + x.recs.length - 1 : Nat) : Int) ≤ n; omega) (op_leq rfl rfl)) ?_)
        refine zd rfl (op_pick_t rfl rfl) (wl_nil (st_tn (w_cond_t (rfl) ?_)))
        refine w_skip (st_tn (w_block (w_seq (w_region (zm rfl (zd rfl (op_nilCheck rfl) (zd rfl (op_fieldAddr (off := 2) rfl tF76_2xd) (zd rfl (op_load1 rfl tO73xd (Ent.lab (l := 611) rfl (says_cel 2))) (zd rfl (op_idx (i := 0) (l := rowsOf f1 S1) rfl rfl tS73xd (Sl.ent (Sl.lab (E := 87) (enc := encRow) (l := rowsOf f1 S1) 612 rfl (by rw [hr1]; unfold maxLen; omega))) (by omega)) ?_)))))))))
        refine zd rfl (op_ldxA rfl tA87xd (Sl.lab (E := 87) (enc := encRow) (l := rowsOf f1 S1) 612 rfl (by rw [hr1]; unfold maxLen; omega)) hr0 (by rfl) (by rfl)) ?_
        refine wl_op [] rfl rfl rfl rfl (op_alloc (l := 6) tN87xd) ?_
        rintro _ _ ⟨b6, rfl, rfl⟩
        refine wl_op0 [6] rfl rfl rfl (op_store rfl rfl tZ87xd (by rfl) (by rfl) (by exact Nat.le_of_ble_eq_true rfl)) ?_
        rintro _ _ ⟨rfl, rfl⟩
        refine wl_nil (st_tn (w_seq (w_seq ?_)))
        refine w_draw (D := [⟨37, [], [], [], _, false, [], []⟩, ⟨38, [0], [], [], _, false, [], []⟩, ⟨39, [1], [], [], _, false, [], []⟩, ⟨40, [2], [], [], _, false, [], []⟩, ⟨41, [], [], [], _, false, [], []⟩, ⟨42, [], [], [], _, false, [], []⟩, ⟨43, [5], [], [], _, false, [], []⟩, ⟨44, [4, 6], [], [], _, false, [], []⟩]) [] [0, 6] [⟨37, [], [], false, [], []⟩, ⟨38, [0], [], false, [], []⟩, ⟨39, [1], [], false, [], []⟩, ⟨40, [2], [], false, [], []⟩, ⟨41, [], [], false, [], []⟩, ⟨42, [], [], false, [], []⟩, ⟨43, [5], [], false, [], []⟩, ⟨44, [4, 6], [], false, [], []⟩] tMixxd (by rfl) (by kernel_rfl) (by rfl) (by rfl)
            ⟨.plain rfl (by intro X; exact op_move rfl),
            ⟨.plain rfl (by intro X; rintro _ _ ⟨rfl, rfl⟩; exact op_nilCheck rfl),
            ⟨.plain rfl (by intro X; rintro _ _ ⟨rfl, rfl⟩; exact op_fieldAddr (off := 0) rfl tF76_0xd),
            ⟨.plain rfl (by intro X; rintro _ _ ⟨rfl, rfl⟩; exact op_load1 rfl tO22xd (Ent.lab (l := 611) rfl (says_cel 0))),
            ⟨.plain rfl (by intro X; exact op_move rfl),
            ⟨.plain rfl (by intro X; exact op_fieldAddr (off := 0) rfl tF87_0xd),
            ⟨.plain rfl (by intro X; rintro _ _ ⟨rfl, rfl⟩; exact op_load1 rfl tO3xd (Ent.lab (l := 6) rfl (says_cel 0))),
            ⟨.plain rfl (by intro X; rintro _ _ ⟨rfl, rfl⟩ _ _ ⟨rfl, rfl⟩; exact op_fn Try.func45 rfl rfl rfl (file_any x.num hxn.2 (by omega) (celLg (v := ⟨rowsOf f1 S1, L.pend, L.fresh, false⟩) 611 rfl))),
            trivial⟩⟩⟩⟩⟩⟩⟩⟩ ?_
        rintro _ _ ⟨rfl, rfl⟩ _ _ ⟨rfl, rfl⟩ _ _ ⟨rfl, rfl⟩ _ _ ⟨rfl, rfl⟩ _ _ ⟨rfl, rfl⟩ _ _ ⟨rfl, rfl⟩ _ _ ⟨rfl, rfl⟩ _ _ ⟨rfl, rfl⟩
        refine wl_norm (e' := [(0, _), (1, _), (6, _), (40, _), (44, _)]) (.cons rfl (.cons rfl (.cons rfl (.cons rfl (.cons rfl (.nil _)))))) (by dsimp only [cond_false, cond_true, List.nil_append, List.cons_append]) ?_
        refine wl_op [601] rfl rfl rfl rfl (op_fn Try.func58 rfl rfl rfl (drem_c 601 (fileN nm x.num) hg1 (by rw [len_fileN]; unfold maxLen; omega))) ?_
        rintro _ _ ⟨rfl, rfl⟩
        refine za rfl (wl_nil (st_tn (w_seq (w_region (zm rfl (zd rfl (op_neq rfl rfl) (wl_nil (st_tn (w_cond_d rfl (fun hc47 => ?_) (fun hc47 => ?_))))))))))
        · -- c47.t
          refine w_seq (w_region (zm rfl (zm rfl (wl_op [611] rfl rfl rfl rfl (op_fn Try.func47 rfl rfl rfl (lfail_any (v := ⟨rowsOf f1 S1, L.pend, L.fresh, false⟩) (DskM.remO s1 (fileN nm x.num)).1)) ?_))))
          rintro _ _ ⟨rfl, rfl⟩
          refine za rfl (wl_nil (st_tn (w_ret (st_tr (st_br (st_tr (st_br (st_tr (st_ret (vs := [_]) [601, 611, 612, 613, 614] Try.results34 ⟨rfl, trivial⟩ rfl ?_)))))))))
          refine ⟨[(601, _), (611, _), (612, _), (613, _), (614, _)], rfl, ?_⟩
          have h3 : truncG nm L.first L.segs n s = ((DskM.remO s1 (fileN nm x.num)).1, f1, S1, (DskM.remO s1 (fileN nm x.num)).2) := by
            rw [heq, hS, truncG, if_pos (by omega), if_pos (by assumption)]
          rw [htr, h3]
          exact ⟨(m, a2, c2, p, cp, D), hD, rfl, rfl⟩
        · -- c47.f
          have hstep : truncG nm f1 S1 n s1 = truncG nm (f1 + x.recs.length) (y :: S2) n (DskM.remO s1 (fileN nm x.num)).2 := by
            rw [hS, truncG, if_pos (by omega), if_neg (by assumption)]
          refine w_skip (st_tn (w_seq (w_seq (w_region (zd rfl (op_fieldAddr (off := 1) rfl tF87_1xd) (zd rfl (op_load1 rfl tO3xd (Ent.lab (l := 6) rfl (says_cel 1))) (za rfl (wl_nil (st_tn (w_block ?_))))))))))
          refine w_loopQ (X := Nat × List (Int × List UInt8)) (fun z => f1 ≤ z.1 ∧ z.1 ≤ f1 + x.recs.length ∧ IsMap z.2 z.1 ((allR S1).drop (z.1 - f1))) (fun z => [(8, .int .i64 (z.1))]) (fun z => [(613, mp KZ encSV m (z.2))]) (fun z => f1 + x.recs.length - z.1) ((f1, D)) [(0, _), (1, _), (6, _)] [(601, _), (611, _), (612, _), (614, _), (6, _)] [613, 601, 611, 612, 614, 6] rfl (rfl) (.cons rfl (.nil _)) (.cons rfl (.cons rfl (.cons rfl (.nil _)))) (by
              try dsimp only
              exact ⟨Nat.le_refl _, by omega, by simpa using hD⟩) ?_
          rintro ⟨q, D2⟩ ⟨hq1, hq2, hD2⟩
          refine w_norm2 (by dsimp only [List.cons_append, List.nil_append]) (by dsimp only [List.cons_append, List.nil_append]) ?_
          try dsimp only at hq1 hq2 hD2 ⊢
          refine w_seq (w_seq (w_region (zm rfl (zd rfl (op_fieldAddr (off := 2) rfl tF87_2xd) (zd rfl (op_load1 rfl tO3xd (Ent.lab (l := 6) rfl (says_cel 2))) (zd rfl (op_leq rfl rfl) (wl_nil (st_tn (w_cond_d rfl (fun hc56 => ?_) (fun hc56 => ?_))))))))))
          · -- c56.t
            have hq3 : q < f1 + x.recs.length := by
              have : (q : Int) ≤ ((f1 + x.recs.length - 1 : Nat) : Int) := hc56
              omega
            have hal := congrArg List.length hall
            rw [List.length_append] at hal
            have hdel : IsMap (delK KZ D2 (q : Int)) (q + 1) ((allR S1).drop (q + 1 - f1)) := by
              obtain ⟨r, hr⟩ := getE (l := allR S1) (i := q - f1) (by omega)
              have hre := (List.getElem?_eq_some_iff.1 hr).2
              have hlt := (List.getElem?_eq_some_iff.1 hr).1
              rw [List.drop_eq_getElem_cons hlt] at hD2
              have := hD2.del
              rwa [show q - f1 + 1 = q + 1 - f1 by omega] at this
            refine w_skip (st_tn (w_seq (w_block (w_region (zm rfl (zd rfl (op_nilCheck rfl) (zd rfl (op_fieldAddr (off := 3) rfl tF76_3xd) (zd rfl (op_load1 rfl tO74xd (Ent.lab (l := 611) rfl (says_cel 3))) (zm rfl (wl_op0 [613] rfl rfl rfl (op_delete (kt := KZ) (encV := encSV) (lab := 613) rfl rfl tQ74xd) ?_))))))))))
            rintro _ _ ⟨rfl, rfl⟩
            refine wl_nil (st_bn (st_tn (w_region (zm rfl (zd rfl (op_add' rfl rfl (by omega)) ?_)))))
            refine za rfl (wl_nil ?_)
            refine st_roundQ (x := (q, D2)) ((q + 1, delK KZ D2 (q : Int))) [613, 601, 611, 612, 614, 6] rfl (rfl) (.cons rfl (.nil _)) (.cons rfl (.cons rfl (.cons rfl (.nil _)))) (by
                try dsimp only
                exact ⟨by omega, by omega, hdel⟩) (by
                try dsimp only
                omega)
          · -- c56.f
            have hq3 : q = f1 + x.recs.length := by
              have : ¬ (q : Int) ≤ ((f1 + x.recs.length - 1 : Nat) : Int) := hc56
              omega
            have hD3 : IsMap D2 (f1 + x.recs.length) (allR (y :: S2)) := by
              rw [hall, hq3, show f1 + x.recs.length - f1 = x.recs.length by omega, List.drop_left] at hD2
              exact hD2
            refine w_exit (st_te ?_)
            refine st_te ?_
            refine st_be (st_tn (w_fact 612 rfl (slO_fact (by rw [hr1]; omega)) (fun hga => ?_)))
            obtain ⟨g, hga, hgc⟩ := hga
            subst hga
            refine w_region (zm rfl (zm rfl (zd rfl (op_nilCheck rfl) (zd rfl (op_fieldAddr (off := 2) rfl tF76_2xd) (zd rfl (op_load1 rfl tO73xd (Ent.lab (l := 611) rfl (says_cel 2))) (wl_op [612] rfl rfl rfl rfl (op_fn Try.func59 rfl rfl rfl (del_at (R := rowsOf f1 S1) (by omega) hgc (by omega))) ?_))))))
            rintro _ _ ⟨rfl, rfl⟩
            refine zd rfl (op_nilCheck rfl) (zd rfl (op_fieldAddr (off := 2) rfl tF76_2xd) (wl_op0 [611] rfl rfl rfl (op_store rfl rfl tZ73xd (by rfl) (by rfl) (by exact Nat.le_of_ble_eq_true rfl)) ?_))
            rintro _ _ ⟨rfl, rfl⟩
            refine wl_nil (st_bn ?_)
            refine st_roundQ (x := (f1, S1, s1, some ⟨g, 0, none⟩, c2, D)) ((f1 + x.recs.length, y :: S2, (DskM.remO s1 (fileN nm x.num)).2, some ⟨g, 0, none⟩, c2, D2)) [613, 601, 611, 612, 614] rfl (by rw [hS]; rfl) (.nil _) (.cons rfl (.cons rfl (.nil _))) (by
                try dsimp only
                exact ⟨oks_tail (hS ▸ hS1) (by simp), hg1.rem _, heq.trans hstep, hD3, by rw [hall, List.length_append] at hz1; omega⟩) (by
                try dsimp only
                rw [hS]; simp)
      · -- h2-
        have hend : truncG nm f1 S1 n s1 = (0, f1, S1, s1) := by rw [hS, truncG, if_neg (by omega)]
        refine w_region (zm rfl (zd rfl (op_nilCheck rfl) (zd rfl (op_fieldAddr (off := 2) rfl tF76_2xd) (zd rfl (op_load1 rfl tO73xd (Ent.lab (l := 611) rfl (says_cel 2))) (zd rfl (op_lenT (enc := encRow) (l := rowsOf f1 S1) rfl tS73xd (Sl.ent (Sl.lab (E := 87) (enc := encRow) (l := rowsOf f1 S1) 612 rfl (by rw [hr1]; unfold maxLen; omega)))) ?_)))))
        refine zd rfl (op_val (v' := .bool true) (by rw [decide_eq_true (by omega)]) (op_gtr rfl rfl)) ?_
        refine zm rfl (wl_wanted_det rfl rfl rfl rfl rfl rfl rfl (op_move rfl) (wl_wanted_det rfl rfl rfl rfl rfl rfl rfl (op_nilCheck rfl) (wl_wanted_det rfl rfl rfl rfl rfl rfl rfl (op_fieldAddr (off := 2) rfl tF76_2xd) (wl_wanted_det rfl rfl rfl rfl rfl rfl rfl (op_load1 rfl tO73xd (Ent.lab (l := 611) rfl (says_cel 2))) (wl_wanted_det rfl rfl rfl rfl rfl rfl rfl (op_idx (i := 0) (l := rowsOf f1 S1) rfl rfl tS73xd (Sl.ent (Sl.lab (E := 87) (enc := encRow) (l := rowsOf f1 S1) 612 rfl (by rw [hr1]; unfold maxLen; omega))) (by omega)) ?_)))))
        refine wl_wanted_det rfl rfl rfl rfl rfl rfl rfl (op_fieldAddr (off := 2) rfl tF87_2xd) (wl_wanted_det rfl rfl rfl rfl rfl rfl rfl (op_ldxf rfl tO3xd (Sl.lab (E := 87) (enc := encRow) (l := rowsOf f1 S1) 612 rfl (by rw [hr1]; unfold maxLen; omega)) hr0 (by rfl)) ?_)
        refine wl_wanted_det rfl rfl rfl rfl rfl rfl rfl (op_move rfl) (wl_wanted_det rfl rfl rfl rfl rfl rfl rfl (op_val (v' := .bool false) (by rw [decide_eq_false]; show ¬ ((f1 + x.recs.length - 1 : Nat) : Int) ≤ n; omega) (op_leq rfl rfl)) ?_)
        refine zd rfl (op_pick_t rfl rfl) (wl_nil (st_tn (w_cond_f (rfl) ?_)))
        refine w_exit (st_te ?_)
        refine st_te ?_
        refine st_be (st_tn (w_seq (w_region (za rfl (wl_nil (st_tn (w_ret (st_ret (vs := [_]) [601, 611, 612, 613, 614] Try.results34 ⟨rfl, trivial⟩ rfl ?_))))))))
        refine ⟨[(601, _), (611, _), (612, _), (613, _), (614, _)], rfl, ?_⟩
        rw [htr, heq, hend]
        exact ⟨(m, a2, c2, p, cp, D), hD, rfl, rfl⟩
    · -- h1-
      have hend : truncG nm f1 S1 n s1 = (0, f1, S1, s1) := by
        match S1, h1 with
        | [], _ => rfl
        | [x], _ => rfl
        | x :: y :: S2, h1 => simp at h1
      refine w_region (zm rfl (zd rfl (op_nilCheck rfl) (zd rfl (op_fieldAddr (off := 2) rfl tF76_2xd) (zd rfl (op_load1 rfl tO73xd (Ent.lab (l := 611) rfl (says_cel 2))) (zd rfl (op_lenT (enc := encRow) (l := rowsOf f1 S1) rfl tS73xd (Sl.ent (Sl.lab (E := 87) (enc := encRow) (l := rowsOf f1 S1) 612 rfl (by rw [hr1]; unfold maxLen; omega)))) ?_)))))
      refine zd rfl (op_val (v' := .bool false) (by rw [decide_eq_false (by omega)]) (op_gtr rfl rfl)) ?_
      refine zm rfl (wl_unwanted rfl rfl rfl rfl rfl rfl rfl rfl (wl_unwanted rfl rfl rfl rfl rfl rfl rfl rfl (wl_unwanted rfl rfl rfl rfl rfl rfl rfl rfl (wl_unwanted rfl rfl rfl rfl rfl rfl rfl rfl (wl_unwanted rfl rfl rfl rfl rfl rfl rfl rfl (wl_unwanted rfl rfl rfl rfl rfl rfl rfl rfl (wl_unwanted rfl rfl rfl rfl rfl rfl rfl rfl (wl_unwanted rfl rfl rfl rfl rfl rfl rfl rfl (wl_unwanted rfl rfl rfl rfl rfl rfl rfl rfl (zd rfl (op_pick_f rfl rfl) (wl_nil (st_tn (w_cond_f (rfl) ?_)))))))))))))
      refine w_exit (st_te ?_)
      refine st_te ?_
      refine st_be (st_tn (w_seq (w_region (za rfl (wl_nil (st_tn (w_ret (st_ret (vs := [_]) [601, 611, 612, 613, 614] Try.results34 ⟨rfl, trivial⟩ rfl ?_))))))))
      refine ⟨[(601, _), (611, _), (612, _), (613, _), (614, _)], rfl, ?_⟩
      rw [htr, heq, hend]
      exact ⟨(m, a2, c2, p, cp, D), hD, rfl, rfl⟩
end Go.Proofs.Ytcbigmgakdanjaa
namespace Go.Proofs.Ytcbigmgakdanjaa
open Go Go.SL Go.RowKit Go.RdM Go.WalM
set_option linter.unusedVariables false
set_option linter.unusedSimpArgs false
theorem tA41xe : aggB Try.prog 41 3 = true := by kernel_rfl
theorem tA52xe : aggB Try.prog 52 4 = true := by kernel_rfl
theorem tF41_0xe : fieldB Try.prog 41 0 0 = true := by kernel_rfl
theorem tF52_2xe : fieldB Try.prog 52 2 2 = true := by kernel_rfl
theorem tL35_1xe : zerosB Try.prog 35 9 1 1 = some [Value.string .empty] := by kernel_rfl
theorem tMixxe : Try.prog.follows .mixedOrders = true := by kernel_rfl
theorem tN52xe : (Try.prog.info? 52).bind (·.zero) = some (Value.agg #[Value.slice none 0 0, Value.int .i64 0, Value.slice none 0 0, Value.bool false]) := by kernel_rfl
theorem tO35xe : oneB Try.prog 35 = true := by kernel_rfl
theorem tO5xe : oneB Try.prog 5 = true := by kernel_rfl
theorem tP35xe : appB Try.prog 35 9 1 16 = true := by kernel_rfl
theorem tS35xe : sliceB Try.prog 35 9 1 = true := by kernel_rfl
theorem tZ35xe : (Try.prog.info? 35).map (·.size) = some 1 := by kernel_rfl
theorem tZ52xe : (Try.prog.info? 52).map (·.size) = some 4 := by kernel_rfl
theorem ltrunc_c {σ : World} {F : List Res} {b d : Nat} {nm : RdM.Bs} {L L' : Lg} {s s' : DskM.St} {e : Int} (lab1 lab2 : Nat) (n : Int) (hn : -9223372036854775808 ≤ n ∧ n ≤ 9223372036854775807) (h : truncO nm L s n = (e, L', s')) (hL : OkL L) (hg : DskM.Good s) (hnm : nm.length ≤ 48) :
    FnT Try.prog σ F 34 [.pointer (some ⟨b, 0, none⟩), .int .i64 n] [(lab1, dkR d s), (lab2, lgR b d nm L)] (fun u ρ => u = .int .i64 e ∧ ρ = [(lab1, dkR d s'), (lab2, lgR b d nm L')]) :=
  fn_oc ((opens_id [dkR d s]).app (lg_opens b d nm L)) rfl (R := fun i => (601, dkR d s) :: cL b d nm L i.2.1) (fun i => rfl) (fun i => ltrunc_any n hn hL hg hnm i.2.2)
    fun i u ρ ⟨j, h1, h2, h3⟩ => ⟨[(lab1, dkR d s'), (lab2, lgR b d nm L')], by rw [h] at h2; exact ⟨h2, rfl⟩, by rw [h] at h1 h3; rw [h3]; exact Closes.app (Closes.refl [dkR d s']) (lg_closes j h1)⟩
abbrev PS := List (Value × List RdM.Bs)
abbrev PX := List (Value × List SegV)
def poolS (P : PS) : Res := pool 9 encT 1 P
def poolX (P : PX) : Res := pool 96 encSegV 3 P
def InS (P : PS) (q : Option Addr) (cq : Nat) (l : List RdM.Bs) : Prop := (q = none ∧ cq = 0 ∧ l = []) ∨ (Value.slice q l.length cq, l) ∈ P
inductive InX (P : PX) : Option Addr → Nat → List SegV → Prop
  | nil : InX P none 0 []
  | base {a c Y} : (Value.slice a Y.length c, Y) ∈ P → InX P a c Y
  | sub {a c Y} (j : Nat) : InX P a c Y → j ≤ Y.length → InX P (subJ a c j).1 (subJ a c j).2 (Y.drop j)
theorem InS.sl {σ : World} {R : RL} {F : List Res} {P : PS} {q : Option Addr} {cq : Nat} {l : List RdM.Bs} (h : InS P q cq l) (lab : Nat) (hg : getL R lab = some (poolS P)) (hl : l.length ≤ maxLen) : Sl σ (rs R ++ F) encT 1 (.slice q l.length cq) l := by
  rcases h with ⟨rfl, rfl, rfl⟩ | h
  · exact Sl.nilv
  · exact Sl.pool lab hg h hl
theorem InX.sl {σ : World} {R : RL} {F : List Res} {P : PX} {a : Option Addr} {c : Nat} {Y : List SegV} (h : InX P a c Y) (lab : Nat) (hg : getL R lab = some (poolX P)) (hl : Y.length ≤ 1000000) : Sl σ (rs R ++ F) encSegV 3 (.slice a Y.length c) Y := by
  have key : ∀ {a c Y}, InX P a c Y → Ent σ (rs R ++ F) (slT encSegV 3 (.slice a Y.length c) Y) := by
    intro a c Y h
    induction h with
    | nil => exact Sl.nilv.ent
    | base h => exact Ent.lab hg (says_pool h)
    | sub j h hj ih =>
      rename_i a c Y
      by_cases hle : Y.length ≤ maxLen
      · exact (sl_subJ ⟨ih, hle⟩ j hj).ent
      · intro w hw
        exact absurd (ih w hw).le hle
  exact ⟨key h, by unfold maxLen; omega⟩
theorem InS.mono {P P' : PS} {q : Option Addr} {cq : Nat} {l : List RdM.Bs} (h : InS P q cq l) (hp : P ⊆ P') : InS P' q cq l := h.imp id (fun h => hp h)
theorem InX.mono {P P' : PX} {a : Option Addr} {c : Nat} {Y : List SegV} (h : InX P a c Y) (hp : P ⊆ P') : InX P' a c Y := by
  induction h with
  | nil => exact .nil
  | base h => exact .base (hp h)
  | sub j h hj ih => exact .sub j ih hj
def Yrel (Y : List SegV) (S : List Sg) : Prop := Y.map (fun x => (x.num, x.grp, x.recs)) = S.map (fun s => (s.num, s.gs.length, s.recs))
theorem Yrel.len {Y : List SegV} {S : List Sg} (h : Yrel Y S) : Y.length = S.length := by have := congrArg List.length h; simpa using this
theorem Yrel.recs {Y : List SegV} {S : List Sg} (h : Yrel Y S) : recsX Y = allR S := by
  have h1 := congrArg (List.map (fun x : Nat × Nat × List RdM.Bs => x.2.2)) h
  rw [List.map_map, List.map_map] at h1
  unfold recsX allR
  exact congrArg List.flatten h1
theorem Yrel.mem {Y : List SegV} {S : List Sg} (h : Yrel Y S) {x : SegV} (hx : x ∈ Y) : ∃ s ∈ S, x.num = s.num ∧ x.grp = s.gs.length ∧ x.recs = s.recs := by
  have h1 : (x.num, x.grp, x.recs) ∈ Y.map (fun x => (x.num, x.grp, x.recs)) := List.mem_map.2 ⟨x, hx, rfl⟩
  rw [h] at h1
  obtain ⟨s, hs, he⟩ := List.mem_map.1 h1
  simp only [Prod.mk.injEq] at he
  exact ⟨s, hs, he.1.symm, he.2.1.symm, he.2.2.symm⟩
theorem recs_le' {Y : List SegV} {S : List Sg} (h : Yrel Y S) {x : SegV} (hx : x ∈ Y) : x.recs.length ≤ (allR S).length := by
  obtain ⟨s, hs, _, _, he⟩ := h.mem hx
  rw [he]; exact recs_le hs
structure MSt (P1 : PS) (P2 : PX) (v : Value) (M : Lg) (a : Option Addr) (c : Nat) (p : Option Addr) (cp : Nat) (Y : List SegV) : Prop where
  val : v = .agg #[.slice a Y.length c, .int .i64 M.first, .slice p M.pend.length cp, .bool M.fresh]
  inx : InX P2 a c Y
  ins : ∀ x ∈ Y, InS P1 x.q x.cq x.recs
  inp : InS P1 p cp M.pend
  rel : Yrel Y M.segs
def MS (P1 : PS) (P2 : PX) (v : Value) (M : Lg) : Prop := ∃ a c p cp Y, MSt P1 P2 v M a c p cp Y
section
variable {σ : World} {R : RL} {F : List Res} {P1 : PS} {P2 : PX} {v : Value} {M : Lg} {a p : Option Addr} {c cp : Nat} {Y : List SegV}
theorem MSt.slx (h : MSt P1 P2 v M a c p cp Y) (h2 : getL R 606 = some (poolX P2)) (hl : M.segs.length ≤ 1000000) : Sl σ (rs R ++ F) encSegV 3 (.slice a Y.length c) Y := h.inx.sl 606 h2 (by rw [h.rel.len]; exact hl)
theorem MSt.slr (h : MSt P1 P2 v M a c p cp Y) (h1 : getL R 605 = some (poolS P1)) (hl : (allR M.segs).length ≤ 1000000) : SlX σ (rs R ++ F) Y := fun x hx => by
  obtain ⟨s, hs, _, _, he⟩ := h.rel.mem hx
  exact (h.ins x hx).sl 605 h1 (by rw [he]; have := recs_le hs; unfold maxLen; omega)
theorem MSt.slp (h : MSt P1 P2 v M a c p cp Y) (h1 : getL R 605 = some (poolS P1)) (hl : M.pend.length ≤ 1000000) : Sl σ (rs R ++ F) encT 1 (.slice p M.pend.length cp) M.pend := h.inp.sl 605 h1 (by unfold maxLen; omega)
end
theorem poolS_nil : poolS [] (fun _ => none) := rfl
theorem poolX_nil : poolX [] (fun _ => none) := rfl
theorem ms_begin : MS [] [] (.agg #[.slice none 0 0, .int .i64 1, .slice none 0 0, .bool true]) newL := ⟨none, 0, none, 0, [], rfl, .nil, fun x hx => by simp at hx, .inl ⟨rfl, rfl, rfl⟩, rfl⟩
structure Sm (L : Lg) : Prop where
  ok : OkL L
  br : L.broken = false
  all : (allR L.segs).length ≤ 100000
  fst : L.first ≤ 100000
  pe : L.pend.length ≤ 200
theorem Sm.segl {L : Lg} (h : Sm L) : L.segs.length ≤ 100000 := by have := segs_le_all h.ok.seg.grp; have := h.all; omega
theorem recB_len' (z n : Int) : (recB z n).length ≤ 39 := by unfold recB; rw [recI_len]; omega
set_option maxHeartbeats 4000000 in
set_option maxRecDepth 100000 in
theorem do_app {σ : World} {F : List Res} {b d : Nat} {nm : RdM.Bs} {L : Lg} {s : DskM.St} {P1 : PS} {P2 : PX} {v : Value} (x : OpL) (hx : (0 ≤ x.k ∧ x.k ≤ 255) ∧ (0 ≤ x.z ∧ x.z ≤ 255) ∧ (0 ≤ x.n ∧ x.n ≤ 255)) (hk : x.k % 8 ≤ 2) (hS : Sm L) (hM : MS P1 P2 v L) :
    FnT Try.prog σ F 27 [.pointer (some ⟨d, 0, none⟩), .pointer (some ⟨b, 0, none⟩), v, .agg (encOpL x).toArray, .string (str nm)] [(601, dkR d s), (611, lgR b d nm L), (605, poolS P1), (606, poolX P2)]
      (fun u ρ => ∃ v' P1', MS P1' P2 v' { L with pend := L.pend ++ [recB x.z x.n] } ∧ u = .tuple #[.pointer (some ⟨b, 0, none⟩), v', .bool true, .bool false] ∧ ρ = [(601, dkR d s), (611, lgR b d nm { L with pend := L.pend ++ [recB x.z x.n] }), (605, poolS P1'), (606, poolX P2)]) := by
  refine fn_of 132 Try.func27 rfl Try.ntmps27 rfl ?_
  obtain ⟨a, c, p, cp, Y, hm⟩ := hM
  have hval := hm.val
  subst hval
  have hb := hS.br
  have hpe := hS.pe
  have hal := hS.all
  have hfs := hS.fst
  have hsg := hS.segl
  obtain ⟨r, hr⟩ : ∃ r, r = recB x.z x.n := ⟨_, rfl⟩
  have hrl : r.length ≤ 39 := by rw [hr]; exact recB_len' _ _
  rw [← hr]
  have happ : appL L r = ((((lastN L + (L.pend.length + 1) : Nat) : Int), 0), { L with pend := L.pend ++ [r] }) := by
    unfold appL; rw [if_neg (by simp [hb]), if_neg (by omega), if_neg (by omega)]
  refine w_seq (w_region (wl_op [] rfl rfl rfl rfl (op_box (T := 52) (l := 7) rfl) ?_))
  rintro _ _ ⟨b7, rfl, rfl⟩
  refine wl_op [] rfl rfl rfl rfl (op_box (T := 41) (l := 8) rfl) ?_
  rintro _ _ ⟨b8, rfl, rfl⟩
  refine za rfl (wl_op [] rfl rfl rfl rfl (op_alloc (l := 11) tN52xe) ?_)
  rintro _ _ ⟨b11, rfl, rfl⟩
  refine za rfl (za rfl (wl_nil (st_tn (w_seq (w_seq (w_region (zd rfl (op_fieldAddr (off := 0) rfl tF41_0xe) (zd rfl (op_load1 rfl tO5xe (Ent.lab (l := 8) rfl (says_cel 0))) (zd rfl (op_remN rfl rfl (by omega) (by omega)) ?_)))))))))
  refine wl_nil (st_tn (w_block (w_seq (w_seq ?_))))
  by_cases h0 : x.k % 8 = 0
  · -- h0+
    refine w_region (zd rfl (op_val (v' := .bool true) (by rw [decide_eq_true h0]) (op_eql rfl rfl)) ?_)
    refine za rfl (wl_nil (st_tn (w_cond_t (rfl) ?_)))
    refine w_skip (st_tn (w_cond_t (rfl) ?_))
    refine w_seq (w_region (zm rfl (zd rfl (op_loadA rfl tA41xe (Ent.lab (l := 8) rfl (says_cel 0)) (Nat.le_of_ble_eq_true rfl)) (zd rfl (op_fn Try.func19 rfl rfl rfl (fn_imp (record_any x.k x.z x.n hx.2.1 hx.2.2) (fun u ρ hu => (by rw [← hr] at hu; exact hu : u = .string (str r) ∧ ρ = [])))) ?_))))
    refine wl_op [611] rfl rfl rfl rfl (op_fn Try.func14 rfl rfl rfl (lappend_to 611 happ hS.ok (by omega))) ?_
    rintro _ _ ⟨rfl, rfl⟩
    refine zm rfl (zd rfl (op_extract rfl rfl) (zd rfl (op_extract rfl rfl) (za rfl (za rfl (wl_nil (st_tn (w_seq (w_region (zd rfl (op_loadA rfl tA52xe (Ent.lab (l := 7) rfl (says_cel 0)) (Nat.le_of_ble_eq_true rfl)) (wl_op0 [11] rfl rfl rfl (op_store rfl rfl tZ52xe (by rfl) (by rfl) (by exact Nat.le_of_ble_eq_true rfl)) ?_))))))))))
    rintro _ _ ⟨rfl, rfl⟩
    refine wl_nil (st_tn (w_seq ?_))
    refine w_drawW (fun β => [⟨35, [], [], [], fun w => DetW _ _, true, [], []⟩, ⟨36, [], [], [], noW (_), false, [], []⟩, ⟨37, [1], [], [], noW (_), false, [], []⟩, ⟨38, [2], [0], [], fun w => DetW _ _, false, [], []⟩, ⟨39, [], [], [], noW (_), false, [], []⟩]) [] [7, 8] [⟨35, [], [], true, [], []⟩, ⟨36, [], [], false, [], []⟩, ⟨37, [1], [], false, [], []⟩, ⟨38, [2], [0], false, [], []⟩, ⟨39, [], [], false, [], []⟩] [[], [], [], [0], []] [[], [], [], [], []] tMixxe (fun _ => by rfl) (fun _ => by rfl) (by kernel_rfl) (by kernel_rfl) (by rfl) (by rfl)
        (fun β => ⟨.px rfl (by intro X; refine OpT.mono (op_lit0 (enc := encT) (lab := 35) tS35xe) ?_; rintro _ _ ⟨a35, c35, rfl, rfl⟩; obtain ⟨w, rfl, rfl⟩ : ∃ w : Wt, w.a = a35 ∧ w.c = c35 := ⟨{ a := a35, c := c35 }, rfl, rfl⟩; exact ⟨w, rfl, rfl⟩),
        ⟨.p rfl (by intro X; exact op_fieldAddr (off := 2) rfl tF52_2xe),
        ⟨.p rfl (by intro X; rintro _ _ ⟨rfl, rfl⟩; exact op_load1 rfl tO35xe (Ent.lab (l := 7) rfl (says_cel 2))),
        ⟨.px rfl (by intro X; rintro _ _ ⟨rfl, rfl⟩ _ _ ⟨rfl, rfl⟩; show OpT _ _ _ _ _ _ [(_, _)] _; refine OpT.mono (op_append (lab := 35) (lab' := 38) rfl rfl tP35xe enc1T (hm.slp rfl (by omega)) (by simp; omega) (by simp; omega)) ?_; rintro _ _ ⟨a38, c38, rfl, rfl⟩; obtain ⟨w, rfl, rfl⟩ : ∃ w : Wt, w.a = a38 ∧ w.c = c38 := ⟨{ a := a38, c := c38 }, rfl, rfl⟩; exact ⟨w, rfl, rfl⟩),
        ⟨.p rfl (by intro X; exact op_loadA rfl tA41xe (Ent.lab (l := 8) rfl (says_cel 0)) (Nat.le_of_ble_eq_true rfl)),
        trivial⟩⟩⟩⟩⟩)
        (fun β β' => ⟨fun _ => by rfl, ⟨fun _ => by rfl, ⟨fun _ => by rfl, ⟨fun h => by first | rfl | (simp only [h 0 (by decide)]), ⟨fun _ => by rfl, trivial⟩⟩⟩⟩⟩) ?_
    intro β
    rintro _ _ ⟨rfl, rfl⟩ _ _ ⟨rfl, rfl⟩ _ _ ⟨rfl, rfl⟩ _ _ ⟨rfl, rfl⟩ _ _ ⟨rfl, rfl⟩
    generalize (β 0).a = a35
    generalize (β 0).c = c35
    generalize (β 3).a = a38
    generalize (β 3).c = c38
    refine wl_norm (e' := [(1, _), (7, _), (11, _), (14, _), (15, _), (38, _), (39, _)]) (.cons rfl (.cons rfl (.cons rfl (.cons rfl (.cons rfl (.cons rfl (.cons rfl (.nil _)))))))) (by dsimp only [cond_false, cond_true, List.nil_append, List.cons_append]) ?_
    refine zd rfl (op_fn Try.func19 rfl rfl rfl (fn_imp (record_any x.k x.z x.n hx.2.1 hx.2.2) (fun u ρ hu => (by rw [← hr] at hu; exact hu : u = .string (str r) ∧ ρ = [])))) ?_
    refine wl_op [] rfl rfl rfl rfl (op_buildSlice (enc := encT) (l := [r]) (lab := 41) tL35_1xe rfl rfl (fun _ => rfl) rfl) ?_
    rintro _ _ ⟨a41, c41, rfl, rfl⟩
    refine wl_op [38] rfl rfl rfl rfl (op_append (lab := 38) (lab' := 42) rfl rfl tP35xe enc1T (Sl.lab 41 rfl (by simp [maxLen])) (by simp; omega) (by simp; omega)) ?_
    rintro _ _ ⟨a42, c42, rfl, rfl⟩
    refine zd rfl (op_fieldAddr (off := 2) rfl tF52_2xe) (wl_op0 [11] rfl rfl rfl (op_store rfl rfl tZ35xe (by rfl) (by rfl) (by exact Nat.le_of_ble_eq_true rfl)) ?_)
    rintro _ _ ⟨rfl, rfl⟩
    refine wl_nil (st_tn (w_seq ?_))
    rw [List.nil_append]
    refine w_star 42 605 605 rfl ?_
    refine w_wk 605 (poolS ((.slice a42 (L.pend ++ [r]).length c42, L.pend ++ [r]) :: P1)) rfl (fun _ h => h) ?_
    have hrec := congrArg List.length hm.rel.recs
    have hpos := hS.ok.seg.pos
    refine w_drawW (fun β => [⟨44, [], [], [], noW (_), false, [], []⟩, ⟨45, [], [], [], noW (_), false, [15], []⟩, ⟨46, [], [], [], noW (_), false, [], []⟩, ⟨47, [2], [], [], noW (_), false, [], []⟩, ⟨48, [3], [], [], noW (_), false, [], []⟩, ⟨49, [], [], [], noW (_), false, [], []⟩, ⟨50, [], [], [], noW (_), false, [], []⟩, ⟨51, [6], [], [], noW (_), false, [], []⟩, ⟨52, [], [], [], noW (_), false, [], []⟩, ⟨53, [8], [], [], noW (_), false, [15], []⟩, ⟨54, [9], [], [], noW (_), false, [], []⟩, ⟨55, [7, 10], [], [], noW (_), false, [], []⟩, ⟨56, [5, 11], [], [], noW (_), false, [], []⟩, ⟨57, [4, 12], [], [], noW (_), false, [], []⟩, ⟨10, [0], [], [], noW (_), false, [], []⟩, ⟨147, [1], [], [(11, _)], noW (_), false, [], []⟩]) [11] [1, 11, 15, 14, 7] [⟨44, [], [], false, [], []⟩, ⟨45, [], [], false, [15], []⟩, ⟨46, [], [], false, [], []⟩, ⟨47, [2], [], false, [], []⟩, ⟨48, [3], [], false, [], []⟩, ⟨49, [], [], false, [], []⟩, ⟨50, [], [], false, [], []⟩, ⟨51, [6], [], false, [], []⟩, ⟨52, [], [], false, [], []⟩, ⟨53, [8], [], false, [15], []⟩, ⟨54, [9], [], false, [], []⟩, ⟨55, [7, 10], [], false, [], []⟩, ⟨56, [5, 11], [], false, [], []⟩, ⟨57, [4, 12], [], false, [], []⟩, ⟨10, [0], [], false, [], []⟩, ⟨147, [1], [], false, [], []⟩] [[], [], [], [], [], [], [], [], [], [], [], [], [], [], [], []] [[], [], [], [], [], [], [], [], [], [], [], [], [], [], [], [(11, _)]] tMixxe (fun _ => by rfl) (fun _ => by rfl) (by kernel_rfl) (by kernel_rfl) (by rfl) (by rfl)
        (fun β => ⟨.p rfl (by intro X; exact op_move rfl),
        ⟨.p rfl (by intro X; exact op_loadA rfl tA52xe (Ent.lab (l := 11) rfl (says_cel 0)) (Nat.le_of_ble_eq_true rfl)),
        ⟨.p rfl (by intro X; exact op_move rfl),
        ⟨.p rfl (by intro X; rintro _ _ ⟨rfl, rfl⟩; exact op_val (v' := .bool true) (by rfl) (op_eql rfl rfl)),
        ⟨.p rfl (by intro X; rintro _ _ ⟨rfl, rfl⟩; exact op_move rfl),
        ⟨.w rfl rfl rfl (by rintro _ _ ⟨rfl, rfl⟩; rfl) (by intro X; exact op_move rfl),
        ⟨.w rfl rfl rfl (by rintro _ _ ⟨rfl, rfl⟩; rfl) (by intro X; exact op_loadA rfl tA52xe (Ent.lab (l := 7) rfl (says_cel 0)) (Nat.le_of_ble_eq_true rfl)),
        ⟨.w rfl rfl rfl (by rintro _ _ ⟨rfl, rfl⟩; rfl) (by intro X; rintro _ _ ⟨rfl, rfl⟩; exact op_fn Try.func29 rfl rfl rfl (mlast_any (hm.slx rfl (by omega)) (fun x hx => (hm.ins x hx).mono (List.subset_cons_self _ _) |>.sl 605 rfl (by have := recs_le' hm.rel hx; unfold maxLen; omega)) (by omega) (by omega))),
        ⟨.w rfl rfl rfl (by rintro _ _ ⟨rfl, rfl⟩; rfl) (by intro X; exact op_fieldAddr (off := 2) rfl tF52_2xe),
        ⟨.w rfl rfl rfl (by rintro _ _ ⟨rfl, rfl⟩; rfl) (by intro X; rintro _ _ ⟨rfl, rfl⟩; exact op_load1 rfl tO35xe (Ent.lab (l := 11) rfl (says_cel 2))),
        ⟨.w rfl rfl rfl (by rintro _ _ ⟨rfl, rfl⟩; rfl) (by intro X; rintro _ _ ⟨rfl, rfl⟩; exact op_lenT (enc := encT) (l := L.pend ++ [r]) rfl tS35xe (Sl.ent (Sl.pool (E := 9) (enc := encT) (k := 1) 605 rfl List.mem_cons_self (by unfold maxLen; simp; omega)))),
        ⟨.w rfl rfl rfl (by rintro _ _ ⟨rfl, rfl⟩; rfl) (by intro X; rintro _ _ ⟨rfl, rfl⟩ _ _ ⟨rfl, rfl⟩; exact op_add' rfl rfl (by simp; omega)),
        ⟨.w rfl rfl rfl (by rintro _ _ ⟨rfl, rfl⟩; rfl) (by intro X; rintro _ _ ⟨rfl, rfl⟩ _ _ ⟨rfl, rfl⟩; exact op_val (v' := .bool true) (by rw [decide_eq_true]; show ((lastN L + (L.pend.length + 1) : Nat) : Int) = _; rw [List.length_append, List.length_singleton]; unfold lastN; omega) (op_eql rfl rfl)),
        ⟨.p rfl (by intro X; rintro _ _ ⟨rfl, rfl⟩ _ _ ⟨rfl, rfl⟩; exact op_pick_t rfl rfl),
        ⟨.p rfl (by intro X; rintro _ _ ⟨rfl, rfl⟩; exact op_assign rfl),
        ⟨.p rfl (by intro X; rintro _ _ ⟨rfl, rfl⟩; exact op_store rfl rfl tZ52xe (by rfl) (by rfl) (by exact Nat.le_of_ble_eq_true rfl)) (hu := by exact .inr fun _ _ h => h.1),
        trivial⟩⟩⟩⟩⟩⟩⟩⟩⟩⟩⟩⟩⟩⟩⟩⟩)
        (fun β β' => ⟨fun _ => by rfl, ⟨fun _ => by rfl, ⟨fun _ => by rfl, ⟨fun _ => by rfl, ⟨fun _ => by rfl, ⟨fun _ => by rfl, ⟨fun _ => by rfl, ⟨fun _ => by rfl, ⟨fun _ => by rfl, ⟨fun _ => by rfl, ⟨fun _ => by rfl, ⟨fun _ => by rfl, ⟨fun _ => by rfl, ⟨fun _ => by rfl, ⟨fun _ => by rfl, ⟨fun _ => by rfl, trivial⟩⟩⟩⟩⟩⟩⟩⟩⟩⟩⟩⟩⟩⟩⟩⟩) ?_
    intro β
    rintro _ _ ⟨rfl, rfl⟩ _ _ ⟨rfl, rfl⟩ _ _ ⟨rfl, rfl⟩ _ _ ⟨rfl, rfl⟩ _ _ ⟨rfl, rfl⟩ _ _ ⟨rfl, rfl⟩ _ _ ⟨rfl, rfl⟩ _ _ ⟨rfl, rfl⟩ _ _ ⟨rfl, rfl⟩ _ _ ⟨rfl, rfl⟩ _ _ ⟨rfl, rfl⟩ _ _ ⟨rfl, rfl⟩ _ _ ⟨rfl, rfl⟩ _ _ ⟨rfl, rfl⟩ _ _ ⟨rfl, rfl⟩ _ _ ⟨rfl, rfl⟩
    refine wl_norm (e' := [(10, _), (11, _), (57, _)]) (.cons rfl (.cons rfl (.cons rfl (.nil _)))) (by dsimp only [cond_false, cond_true, List.nil_append, List.cons_append]) ?_
    refine za rfl (za rfl (wl_nil (st_tn (w_ret (st_br (st_tr (st_ret (vs := [_, _, _, _]) [601, 611, 605, 606] Try.results27 ⟨rfl, ⟨⟨_, rfl, Ent.mono (Ent.lab (l := 11) rfl (says_cel 0)) (fun _ h => run_load_agg tA52xe h (Nat.le_of_ble_eq_true rfl))⟩, ⟨rfl, ⟨rfl, trivial⟩⟩⟩⟩ rfl ?_)))))))
    refine ⟨[(601, _), (611, _), (605, _), (606, _)], rfl, ?_⟩
    exact ⟨_, _, ⟨a, c, a42, c42, Y, rfl, hm.inx, fun x hx => (hm.ins x hx).mono (List.subset_cons_self _ _), .inr List.mem_cons_self, hm.rel⟩, rfl, rfl⟩
  · -- h0-
    refine w_region (zd rfl (op_val (v' := .bool false) (by rw [decide_eq_false h0]) (op_eql rfl rfl)) ?_)
    refine za rfl (wl_nil (st_tn (w_cond_f (rfl) ?_)))
    refine w_seq ?_
    by_cases h1 : x.k % 8 = 1
    · -- h1+
      refine w_region (zd rfl (op_val (v' := .bool true) (by rw [decide_eq_true h1]) (op_eql rfl rfl)) ?_)
      refine za rfl (wl_nil (st_tn (w_cond_t (rfl) ?_)))
      refine w_skip (st_tn (w_cond_t (rfl) ?_))
      refine w_seq (w_region (zm rfl (zd rfl (op_loadA rfl tA41xe (Ent.lab (l := 8) rfl (says_cel 0)) (Nat.le_of_ble_eq_true rfl)) (zd rfl (op_fn Try.func19 rfl rfl rfl (fn_imp (record_any x.k x.z x.n hx.2.1 hx.2.2) (fun u ρ hu => (by rw [← hr] at hu; exact hu : u = .string (str r) ∧ ρ = [])))) ?_))))
      refine wl_op [611] rfl rfl rfl rfl (op_fn Try.func14 rfl rfl rfl (lappend_to 611 happ hS.ok (by omega))) ?_
      rintro _ _ ⟨rfl, rfl⟩
      refine zm rfl (zd rfl (op_extract rfl rfl) (zd rfl (op_extract rfl rfl) (za rfl (za rfl (wl_nil (st_tn (w_seq (w_region (zd rfl (op_loadA rfl tA52xe (Ent.lab (l := 7) rfl (says_cel 0)) (Nat.le_of_ble_eq_true rfl)) (wl_op0 [11] rfl rfl rfl (op_store rfl rfl tZ52xe (by rfl) (by rfl) (by exact Nat.le_of_ble_eq_true rfl)) ?_))))))))))
      rintro _ _ ⟨rfl, rfl⟩
      refine wl_nil (st_tn (w_seq ?_))
      refine w_drawW (fun β => [⟨35, [], [], [], fun w => DetW _ _, true, [], []⟩, ⟨36, [], [], [], noW (_), false, [], []⟩, ⟨37, [1], [], [], noW (_), false, [], []⟩, ⟨38, [2], [0], [], fun w => DetW _ _, false, [], []⟩, ⟨39, [], [], [], noW (_), false, [], []⟩]) [] [7, 8] [⟨35, [], [], true, [], []⟩, ⟨36, [], [], false, [], []⟩, ⟨37, [1], [], false, [], []⟩, ⟨38, [2], [0], false, [], []⟩, ⟨39, [], [], false, [], []⟩] [[], [], [], [0], []] [[], [], [], [], []] tMixxe (fun _ => by rfl) (fun _ => by rfl) (by kernel_rfl) (by kernel_rfl) (by rfl) (by rfl)
          (fun β => ⟨.px rfl (by intro X; refine OpT.mono (op_lit0 (enc := encT) (lab := 35) tS35xe) ?_; rintro _ _ ⟨a35, c35, rfl, rfl⟩; obtain ⟨w, rfl, rfl⟩ : ∃ w : Wt, w.a = a35 ∧ w.c = c35 := ⟨{ a := a35, c := c35 }, rfl, rfl⟩; exact ⟨w, rfl, rfl⟩),
          ⟨.p rfl (by intro X; exact op_fieldAddr (off := 2) rfl tF52_2xe),
          ⟨.p rfl (by intro X; rintro _ _ ⟨rfl, rfl⟩; exact op_load1 rfl tO35xe (Ent.lab (l := 7) rfl (says_cel 2))),
          ⟨.px rfl (by intro X; rintro _ _ ⟨rfl, rfl⟩ _ _ ⟨rfl, rfl⟩; show OpT _ _ _ _ _ _ [(_, _)] _; refine OpT.mono (op_append (lab := 35) (lab' := 38) rfl rfl tP35xe enc1T (hm.slp rfl (by omega)) (by simp; omega) (by simp; omega)) ?_; rintro _ _ ⟨a38, c38, rfl, rfl⟩; obtain ⟨w, rfl, rfl⟩ : ∃ w : Wt, w.a = a38 ∧ w.c = c38 := ⟨{ a := a38, c := c38 }, rfl, rfl⟩; exact ⟨w, rfl, rfl⟩),
          ⟨.p rfl (by intro X; exact op_loadA rfl tA41xe (Ent.lab (l := 8) rfl (says_cel 0)) (Nat.le_of_ble_eq_true rfl)),
          trivial⟩⟩⟩⟩⟩)
          (fun β β' => ⟨fun _ => by rfl, ⟨fun _ => by rfl, ⟨fun _ => by rfl, ⟨fun h => by first | rfl | (simp only [h 0 (by decide)]), ⟨fun _ => by rfl, trivial⟩⟩⟩⟩⟩) ?_
      intro β
      rintro _ _ ⟨rfl, rfl⟩ _ _ ⟨rfl, rfl⟩ _ _ ⟨rfl, rfl⟩ _ _ ⟨rfl, rfl⟩ _ _ ⟨rfl, rfl⟩
      generalize (β 0).a = a35
      generalize (β 0).c = c35
      generalize (β 3).a = a38
      generalize (β 3).c = c38
      refine wl_norm (e' := [(1, _), (7, _), (11, _), (14, _), (15, _), (38, _), (39, _)]) (.cons rfl (.cons rfl (.cons rfl (.cons rfl (.cons rfl (.cons rfl (.cons rfl (.nil _)))))))) (by dsimp only [cond_false, cond_true, List.nil_append, List.cons_append]) ?_
      refine zd rfl (op_fn Try.func19 rfl rfl rfl (fn_imp (record_any x.k x.z x.n hx.2.1 hx.2.2) (fun u ρ hu => (by rw [← hr] at hu; exact hu : u = .string (str r) ∧ ρ = [])))) ?_
      refine wl_op [] rfl rfl rfl rfl (op_buildSlice (enc := encT) (l := [r]) (lab := 41) tL35_1xe rfl rfl (fun _ => rfl) rfl) ?_
      rintro _ _ ⟨a41, c41, rfl, rfl⟩
      refine wl_op [38] rfl rfl rfl rfl (op_append (lab := 38) (lab' := 42) rfl rfl tP35xe enc1T (Sl.lab 41 rfl (by simp [maxLen])) (by simp; omega) (by simp; omega)) ?_
      rintro _ _ ⟨a42, c42, rfl, rfl⟩
      refine zd rfl (op_fieldAddr (off := 2) rfl tF52_2xe) (wl_op0 [11] rfl rfl rfl (op_store rfl rfl tZ35xe (by rfl) (by rfl) (by exact Nat.le_of_ble_eq_true rfl)) ?_)
      rintro _ _ ⟨rfl, rfl⟩
      refine wl_nil (st_tn (w_seq ?_))
      rw [List.nil_append]
      refine w_star 42 605 605 rfl ?_
      refine w_wk 605 (poolS ((.slice a42 (L.pend ++ [r]).length c42, L.pend ++ [r]) :: P1)) rfl (fun _ h => h) ?_
      have hrec := congrArg List.length hm.rel.recs
      have hpos := hS.ok.seg.pos
      refine w_drawW (fun β => [⟨44, [], [], [], noW (_), false, [], []⟩, ⟨45, [], [], [], noW (_), false, [15], []⟩, ⟨46, [], [], [], noW (_), false, [], []⟩, ⟨47, [2], [], [], noW (_), false, [], []⟩, ⟨48, [3], [], [], noW (_), false, [], []⟩, ⟨49, [], [], [], noW (_), false, [], []⟩, ⟨50, [], [], [], noW (_), false, [], []⟩, ⟨51, [6], [], [], noW (_), false, [], []⟩, ⟨52, [], [], [], noW (_), false, [], []⟩, ⟨53, [8], [], [], noW (_), false, [15], []⟩, ⟨54, [9], [], [], noW (_), false, [], []⟩, ⟨55, [7, 10], [], [], noW (_), false, [], []⟩, ⟨56, [5, 11], [], [], noW (_), false, [], []⟩, ⟨57, [4, 12], [], [], noW (_), false, [], []⟩, ⟨10, [0], [], [], noW (_), false, [], []⟩, ⟨147, [1], [], [(11, _)], noW (_), false, [], []⟩]) [11] [1, 11, 15, 14, 7] [⟨44, [], [], false, [], []⟩, ⟨45, [], [], false, [15], []⟩, ⟨46, [], [], false, [], []⟩, ⟨47, [2], [], false, [], []⟩, ⟨48, [3], [], false, [], []⟩, ⟨49, [], [], false, [], []⟩, ⟨50, [], [], false, [], []⟩, ⟨51, [6], [], false, [], []⟩, ⟨52, [], [], false, [], []⟩, ⟨53, [8], [], false, [15], []⟩, ⟨54, [9], [], false, [], []⟩, ⟨55, [7, 10], [], false, [], []⟩, ⟨56, [5, 11], [], false, [], []⟩, ⟨57, [4, 12], [], false, [], []⟩, ⟨10, [0], [], false, [], []⟩, ⟨147, [1], [], false, [], []⟩] [[], [], [], [], [], [], [], [], [], [], [], [], [], [], [], []] [[], [], [], [], [], [], [], [], [], [], [], [], [], [], [], [(11, _)]] tMixxe (fun _ => by rfl) (fun _ => by rfl) (by kernel_rfl) (by kernel_rfl) (by rfl) (by rfl)
          (fun β => ⟨.p rfl (by intro X; exact op_move rfl),
          ⟨.p rfl (by intro X; exact op_loadA rfl tA52xe (Ent.lab (l := 11) rfl (says_cel 0)) (Nat.le_of_ble_eq_true rfl)),
          ⟨.p rfl (by intro X; exact op_move rfl),
          ⟨.p rfl (by intro X; rintro _ _ ⟨rfl, rfl⟩; exact op_val (v' := .bool true) (by rfl) (op_eql rfl rfl)),
          ⟨.p rfl (by intro X; rintro _ _ ⟨rfl, rfl⟩; exact op_move rfl),
          ⟨.w rfl rfl rfl (by rintro _ _ ⟨rfl, rfl⟩; rfl) (by intro X; exact op_move rfl),
          ⟨.w rfl rfl rfl (by rintro _ _ ⟨rfl, rfl⟩; rfl) (by intro X; exact op_loadA rfl tA52xe (Ent.lab (l := 7) rfl (says_cel 0)) (Nat.le_of_ble_eq_true rfl)),
          ⟨.w rfl rfl rfl (by rintro _ _ ⟨rfl, rfl⟩; rfl) (by intro X; rintro _ _ ⟨rfl, rfl⟩; exact op_fn Try.func29 rfl rfl rfl (mlast_any (hm.slx rfl (by omega)) (fun x hx => (hm.ins x hx).mono (List.subset_cons_self _ _) |>.sl 605 rfl (by have := recs_le' hm.rel hx; unfold maxLen; omega)) (by omega) (by omega))),
          ⟨.w rfl rfl rfl (by rintro _ _ ⟨rfl, rfl⟩; rfl) (by intro X; exact op_fieldAddr (off := 2) rfl tF52_2xe),
          ⟨.w rfl rfl rfl (by rintro _ _ ⟨rfl, rfl⟩; rfl) (by intro X; rintro _ _ ⟨rfl, rfl⟩; exact op_load1 rfl tO35xe (Ent.lab (l := 11) rfl (says_cel 2))),
          ⟨.w rfl rfl rfl (by rintro _ _ ⟨rfl, rfl⟩; rfl) (by intro X; rintro _ _ ⟨rfl, rfl⟩; exact op_lenT (enc := encT) (l := L.pend ++ [r]) rfl tS35xe (Sl.ent (Sl.pool (E := 9) (enc := encT) (k := 1) 605 rfl List.mem_cons_self (by unfold maxLen; simp; omega)))),
          ⟨.w rfl rfl rfl (by rintro _ _ ⟨rfl, rfl⟩; rfl) (by intro X; rintro _ _ ⟨rfl, rfl⟩ _ _ ⟨rfl, rfl⟩; exact op_add' rfl rfl (by simp; omega)),
          ⟨.w rfl rfl rfl (by rintro _ _ ⟨rfl, rfl⟩; rfl) (by intro X; rintro _ _ ⟨rfl, rfl⟩ _ _ ⟨rfl, rfl⟩; exact op_val (v' := .bool true) (by rw [decide_eq_true]; show ((lastN L + (L.pend.length + 1) : Nat) : Int) = _; rw [List.length_append, List.length_singleton]; unfold lastN; omega) (op_eql rfl rfl)),
          ⟨.p rfl (by intro X; rintro _ _ ⟨rfl, rfl⟩ _ _ ⟨rfl, rfl⟩; exact op_pick_t rfl rfl),
          ⟨.p rfl (by intro X; rintro _ _ ⟨rfl, rfl⟩; exact op_assign rfl),
          ⟨.p rfl (by intro X; rintro _ _ ⟨rfl, rfl⟩; exact op_store rfl rfl tZ52xe (by rfl) (by rfl) (by exact Nat.le_of_ble_eq_true rfl)) (hu := by exact .inr fun _ _ h => h.1),
          trivial⟩⟩⟩⟩⟩⟩⟩⟩⟩⟩⟩⟩⟩⟩⟩⟩)
          (fun β β' => ⟨fun _ => by rfl, ⟨fun _ => by rfl, ⟨fun _ => by rfl, ⟨fun _ => by rfl, ⟨fun _ => by rfl, ⟨fun _ => by rfl, ⟨fun _ => by rfl, ⟨fun _ => by rfl, ⟨fun _ => by rfl, ⟨fun _ => by rfl, ⟨fun _ => by rfl, ⟨fun _ => by rfl, ⟨fun _ => by rfl, ⟨fun _ => by rfl, ⟨fun _ => by rfl, ⟨fun _ => by rfl, trivial⟩⟩⟩⟩⟩⟩⟩⟩⟩⟩⟩⟩⟩⟩⟩⟩) ?_
      intro β
      rintro _ _ ⟨rfl, rfl⟩ _ _ ⟨rfl, rfl⟩ _ _ ⟨rfl, rfl⟩ _ _ ⟨rfl, rfl⟩ _ _ ⟨rfl, rfl⟩ _ _ ⟨rfl, rfl⟩ _ _ ⟨rfl, rfl⟩ _ _ ⟨rfl, rfl⟩ _ _ ⟨rfl, rfl⟩ _ _ ⟨rfl, rfl⟩ _ _ ⟨rfl, rfl⟩ _ _ ⟨rfl, rfl⟩ _ _ ⟨rfl, rfl⟩ _ _ ⟨rfl, rfl⟩ _ _ ⟨rfl, rfl⟩ _ _ ⟨rfl, rfl⟩
      refine wl_norm (e' := [(10, _), (11, _), (57, _)]) (.cons rfl (.cons rfl (.cons rfl (.nil _)))) (by dsimp only [cond_false, cond_true, List.nil_append, List.cons_append]) ?_
      refine za rfl (za rfl (wl_nil (st_tn (w_ret (st_br (st_tr (st_ret (vs := [_, _, _, _]) [601, 611, 605, 606] Try.results27 ⟨rfl, ⟨⟨_, rfl, Ent.mono (Ent.lab (l := 11) rfl (says_cel 0)) (fun _ h => run_load_agg tA52xe h (Nat.le_of_ble_eq_true rfl))⟩, ⟨rfl, ⟨rfl, trivial⟩⟩⟩⟩ rfl ?_)))))))
      refine ⟨[(601, _), (611, _), (605, _), (606, _)], rfl, ?_⟩
      exact ⟨_, _, ⟨a, c, a42, c42, Y, rfl, hm.inx, fun x hx => (hm.ins x hx).mono (List.subset_cons_self _ _), .inr List.mem_cons_self, hm.rel⟩, rfl, rfl⟩
    · -- h1-
      refine w_region (zd rfl (op_val (v' := .bool false) (by rw [decide_eq_false h1]) (op_eql rfl rfl)) ?_)
      refine za rfl (wl_nil (st_tn (w_cond_f (rfl) ?_)))
      refine w_region (zd rfl (op_val (v' := .bool true) (by rw [decide_eq_true (by omega)]) (op_eql rfl rfl)) ?_)
      refine za rfl (wl_nil (st_tn (w_cond_t (rfl) ?_)))
      refine w_seq (w_region (zm rfl (zd rfl (op_loadA rfl tA41xe (Ent.lab (l := 8) rfl (says_cel 0)) (Nat.le_of_ble_eq_true rfl)) (zd rfl (op_fn Try.func19 rfl rfl rfl (fn_imp (record_any x.k x.z x.n hx.2.1 hx.2.2) (fun u ρ hu => (by rw [← hr] at hu; exact hu : u = .string (str r) ∧ ρ = [])))) ?_))))
      refine wl_op [611] rfl rfl rfl rfl (op_fn Try.func14 rfl rfl rfl (lappend_to 611 happ hS.ok (by omega))) ?_
      rintro _ _ ⟨rfl, rfl⟩
      refine zm rfl (zd rfl (op_extract rfl rfl) (zd rfl (op_extract rfl rfl) (za rfl (za rfl (wl_nil (st_tn (w_seq (w_region (zd rfl (op_loadA rfl tA52xe (Ent.lab (l := 7) rfl (says_cel 0)) (Nat.le_of_ble_eq_true rfl)) (wl_op0 [11] rfl rfl rfl (op_store rfl rfl tZ52xe (by rfl) (by rfl) (by exact Nat.le_of_ble_eq_true rfl)) ?_))))))))))
      rintro _ _ ⟨rfl, rfl⟩
      refine wl_nil (st_tn (w_seq ?_))
      refine w_drawW (fun β => [⟨35, [], [], [], fun w => DetW _ _, true, [], []⟩, ⟨36, [], [], [], noW (_), false, [], []⟩, ⟨37, [1], [], [], noW (_), false, [], []⟩, ⟨38, [2], [0], [], fun w => DetW _ _, false, [], []⟩, ⟨39, [], [], [], noW (_), false, [], []⟩]) [] [7, 8] [⟨35, [], [], true, [], []⟩, ⟨36, [], [], false, [], []⟩, ⟨37, [1], [], false, [], []⟩, ⟨38, [2], [0], false, [], []⟩, ⟨39, [], [], false, [], []⟩] [[], [], [], [0], []] [[], [], [], [], []] tMixxe (fun _ => by rfl) (fun _ => by rfl) (by kernel_rfl) (by kernel_rfl) (by rfl) (by rfl)
          (fun β => ⟨.px rfl (by intro X; refine OpT.mono (op_lit0 (enc := encT) (lab := 35) tS35xe) ?_; rintro _ _ ⟨a35, c35, rfl, rfl⟩; obtain ⟨w, rfl, rfl⟩ : ∃ w : Wt, w.a = a35 ∧ w.c = c35 := ⟨{ a := a35, c := c35 }, rfl, rfl⟩; exact ⟨w, rfl, rfl⟩),
          ⟨.p rfl (by intro X; exact op_fieldAddr (off := 2) rfl tF52_2xe),
          ⟨.p rfl (by intro X; rintro _ _ ⟨rfl, rfl⟩; exact op_load1 rfl tO35xe (Ent.lab (l := 7) rfl (says_cel 2))),
          ⟨.px rfl (by intro X; rintro _ _ ⟨rfl, rfl⟩ _ _ ⟨rfl, rfl⟩; show OpT _ _ _ _ _ _ [(_, _)] _; refine OpT.mono (op_append (lab := 35) (lab' := 38) rfl rfl tP35xe enc1T (hm.slp rfl (by omega)) (by simp; omega) (by simp; omega)) ?_; rintro _ _ ⟨a38, c38, rfl, rfl⟩; obtain ⟨w, rfl, rfl⟩ : ∃ w : Wt, w.a = a38 ∧ w.c = c38 := ⟨{ a := a38, c := c38 }, rfl, rfl⟩; exact ⟨w, rfl, rfl⟩),
          ⟨.p rfl (by intro X; exact op_loadA rfl tA41xe (Ent.lab (l := 8) rfl (says_cel 0)) (Nat.le_of_ble_eq_true rfl)),
          trivial⟩⟩⟩⟩⟩)
          (fun β β' => ⟨fun _ => by rfl, ⟨fun _ => by rfl, ⟨fun _ => by rfl, ⟨fun h => by first | rfl | (simp only [h 0 (by decide)]), ⟨fun _ => by rfl, trivial⟩⟩⟩⟩⟩) ?_
      intro β
      rintro _ _ ⟨rfl, rfl⟩ _ _ ⟨rfl, rfl⟩ _ _ ⟨rfl, rfl⟩ _ _ ⟨rfl, rfl⟩ _ _ ⟨rfl, rfl⟩
      generalize (β 0).a = a35
      generalize (β 0).c = c35
      generalize (β 3).a = a38
      generalize (β 3).c = c38
      refine wl_norm (e' := [(1, _), (7, _), (11, _), (14, _), (15, _), (38, _), (39, _)]) (.cons rfl (.cons rfl (.cons rfl (.cons rfl (.cons rfl (.cons rfl (.cons rfl (.nil _)))))))) (by dsimp only [cond_false, cond_true, List.nil_append, List.cons_append]) ?_
      refine zd rfl (op_fn Try.func19 rfl rfl rfl (fn_imp (record_any x.k x.z x.n hx.2.1 hx.2.2) (fun u ρ hu => (by rw [← hr] at hu; exact hu : u = .string (str r) ∧ ρ = [])))) ?_
      refine wl_op [] rfl rfl rfl rfl (op_buildSlice (enc := encT) (l := [r]) (lab := 41) tL35_1xe rfl rfl (fun _ => rfl) rfl) ?_
      rintro _ _ ⟨a41, c41, rfl, rfl⟩
      refine wl_op [38] rfl rfl rfl rfl (op_append (lab := 38) (lab' := 42) rfl rfl tP35xe enc1T (Sl.lab 41 rfl (by simp [maxLen])) (by simp; omega) (by simp; omega)) ?_
      rintro _ _ ⟨a42, c42, rfl, rfl⟩
      refine zd rfl (op_fieldAddr (off := 2) rfl tF52_2xe) (wl_op0 [11] rfl rfl rfl (op_store rfl rfl tZ35xe (by rfl) (by rfl) (by exact Nat.le_of_ble_eq_true rfl)) ?_)
      rintro _ _ ⟨rfl, rfl⟩
      refine wl_nil (st_tn (w_seq ?_))
      rw [List.nil_append]
      refine w_star 42 605 605 rfl ?_
      refine w_wk 605 (poolS ((.slice a42 (L.pend ++ [r]).length c42, L.pend ++ [r]) :: P1)) rfl (fun _ h => h) ?_
      have hrec := congrArg List.length hm.rel.recs
      have hpos := hS.ok.seg.pos
      refine w_drawW (fun β => [⟨44, [], [], [], noW (_), false, [], []⟩, ⟨45, [], [], [], noW (_), false, [15], []⟩, ⟨46, [], [], [], noW (_), false, [], []⟩, ⟨47, [2], [], [], noW (_), false, [], []⟩, ⟨48, [3], [], [], noW (_), false, [], []⟩, ⟨49, [], [], [], noW (_), false, [], []⟩, ⟨50, [], [], [], noW (_), false, [], []⟩, ⟨51, [6], [], [], noW (_), false, [], []⟩, ⟨52, [], [], [], noW (_), false, [], []⟩, ⟨53, [8], [], [], noW (_), false, [15], []⟩, ⟨54, [9], [], [], noW (_), false, [], []⟩, ⟨55, [7, 10], [], [], noW (_), false, [], []⟩, ⟨56, [5, 11], [], [], noW (_), false, [], []⟩, ⟨57, [4, 12], [], [], noW (_), false, [], []⟩, ⟨10, [0], [], [], noW (_), false, [], []⟩, ⟨147, [1], [], [(11, _)], noW (_), false, [], []⟩]) [11] [1, 11, 15, 14, 7] [⟨44, [], [], false, [], []⟩, ⟨45, [], [], false, [15], []⟩, ⟨46, [], [], false, [], []⟩, ⟨47, [2], [], false, [], []⟩, ⟨48, [3], [], false, [], []⟩, ⟨49, [], [], false, [], []⟩, ⟨50, [], [], false, [], []⟩, ⟨51, [6], [], false, [], []⟩, ⟨52, [], [], false, [], []⟩, ⟨53, [8], [], false, [15], []⟩, ⟨54, [9], [], false, [], []⟩, ⟨55, [7, 10], [], false, [], []⟩, ⟨56, [5, 11], [], false, [], []⟩, ⟨57, [4, 12], [], false, [], []⟩, ⟨10, [0], [], false, [], []⟩, ⟨147, [1], [], false, [], []⟩] [[], [], [], [], [], [], [], [], [], [], [], [], [], [], [], []] [[], [], [], [], [], [], [], [], [], [], [], [], [], [], [], [(11, _)]] tMixxe (fun _ => by rfl) (fun _ => by rfl) (by kernel_rfl) (by kernel_rfl) (by rfl) (by rfl)
          (fun β => ⟨.p rfl (by intro X; exact op_move rfl),
          ⟨.p rfl (by intro X; exact op_loadA rfl tA52xe (Ent.lab (l := 11) rfl (says_cel 0)) (Nat.le_of_ble_eq_true rfl)),
          ⟨.p rfl (by intro X; exact op_move rfl),
          ⟨.p rfl (by intro X; rintro _ _ ⟨rfl, rfl⟩; exact op_val (v' := .bool true) (by rfl) (op_eql rfl rfl)),
          ⟨.p rfl (by intro X; rintro _ _ ⟨rfl, rfl⟩; exact op_move rfl),
          ⟨.w rfl rfl rfl (by rintro _ _ ⟨rfl, rfl⟩; rfl) (by intro X; exact op_move rfl),
          ⟨.w rfl rfl rfl (by rintro _ _ ⟨rfl, rfl⟩; rfl) (by intro X; exact op_loadA rfl tA52xe (Ent.lab (l := 7) rfl (says_cel 0)) (Nat.le_of_ble_eq_true rfl)),
          ⟨.w rfl rfl rfl (by rintro _ _ ⟨rfl, rfl⟩; rfl) (by intro X; rintro _ _ ⟨rfl, rfl⟩; exact op_fn Try.func29 rfl rfl rfl (mlast_any (hm.slx rfl (by omega)) (fun x hx => (hm.ins x hx).mono (List.subset_cons_self _ _) |>.sl 605 rfl (by have := recs_le' hm.rel hx; unfold maxLen; omega)) (by omega) (by omega))),
          ⟨.w rfl rfl rfl (by rintro _ _ ⟨rfl, rfl⟩; rfl) (by intro X; exact op_fieldAddr (off := 2) rfl tF52_2xe),
          ⟨.w rfl rfl rfl (by rintro _ _ ⟨rfl, rfl⟩; rfl) (by intro X; rintro _ _ ⟨rfl, rfl⟩; exact op_load1 rfl tO35xe (Ent.lab (l := 11) rfl (says_cel 2))),
          ⟨.w rfl rfl rfl (by rintro _ _ ⟨rfl, rfl⟩; rfl) (by intro X; rintro _ _ ⟨rfl, rfl⟩; exact op_lenT (enc := encT) (l := L.pend ++ [r]) rfl tS35xe (Sl.ent (Sl.pool (E := 9) (enc := encT) (k := 1) 605 rfl List.mem_cons_self (by unfold maxLen; simp; omega)))),
          ⟨.w rfl rfl rfl (by rintro _ _ ⟨rfl, rfl⟩; rfl) (by intro X; rintro _ _ ⟨rfl, rfl⟩ _ _ ⟨rfl, rfl⟩; exact op_add' rfl rfl (by simp; omega)),
          ⟨.w rfl rfl rfl (by rintro _ _ ⟨rfl, rfl⟩; rfl) (by intro X; rintro _ _ ⟨rfl, rfl⟩ _ _ ⟨rfl, rfl⟩; exact op_val (v' := .bool true) (by rw [decide_eq_true]; show ((lastN L + (L.pend.length + 1) : Nat) : Int) = _; rw [List.length_append, List.length_singleton]; unfold lastN; omega) (op_eql rfl rfl)),
          ⟨.p rfl (by intro X; rintro _ _ ⟨rfl, rfl⟩ _ _ ⟨rfl, rfl⟩; exact op_pick_t rfl rfl),
          ⟨.p rfl (by intro X; rintro _ _ ⟨rfl, rfl⟩; exact op_assign rfl),
          ⟨.p rfl (by intro X; rintro _ _ ⟨rfl, rfl⟩; exact op_store rfl rfl tZ52xe (by rfl) (by rfl) (by exact Nat.le_of_ble_eq_true rfl)) (hu := by exact .inr fun _ _ h => h.1),
          trivial⟩⟩⟩⟩⟩⟩⟩⟩⟩⟩⟩⟩⟩⟩⟩⟩)
          (fun β β' => ⟨fun _ => by rfl, ⟨fun _ => by rfl, ⟨fun _ => by rfl, ⟨fun _ => by rfl, ⟨fun _ => by rfl, ⟨fun _ => by rfl, ⟨fun _ => by rfl, ⟨fun _ => by rfl, ⟨fun _ => by rfl, ⟨fun _ => by rfl, ⟨fun _ => by rfl, ⟨fun _ => by rfl, ⟨fun _ => by rfl, ⟨fun _ => by rfl, ⟨fun _ => by rfl, ⟨fun _ => by rfl, trivial⟩⟩⟩⟩⟩⟩⟩⟩⟩⟩⟩⟩⟩⟩⟩⟩) ?_
      intro β
      rintro _ _ ⟨rfl, rfl⟩ _ _ ⟨rfl, rfl⟩ _ _ ⟨rfl, rfl⟩ _ _ ⟨rfl, rfl⟩ _ _ ⟨rfl, rfl⟩ _ _ ⟨rfl, rfl⟩ _ _ ⟨rfl, rfl⟩ _ _ ⟨rfl, rfl⟩ _ _ ⟨rfl, rfl⟩ _ _ ⟨rfl, rfl⟩ _ _ ⟨rfl, rfl⟩ _ _ ⟨rfl, rfl⟩ _ _ ⟨rfl, rfl⟩ _ _ ⟨rfl, rfl⟩ _ _ ⟨rfl, rfl⟩ _ _ ⟨rfl, rfl⟩
      refine wl_norm (e' := [(10, _), (11, _), (57, _)]) (.cons rfl (.cons rfl (.cons rfl (.nil _)))) (by dsimp only [cond_false, cond_true, List.nil_append, List.cons_append]) ?_
      refine za rfl (za rfl (wl_nil (st_tn (w_ret (st_br (st_tr (st_ret (vs := [_, _, _, _]) [601, 611, 605, 606] Try.results27 ⟨rfl, ⟨⟨_, rfl, Ent.mono (Ent.lab (l := 11) rfl (says_cel 0)) (fun _ h => run_load_agg tA52xe h (Nat.le_of_ble_eq_true rfl))⟩, ⟨rfl, ⟨rfl, trivial⟩⟩⟩⟩ rfl ?_)))))))
      refine ⟨[(601, _), (611, _), (605, _), (606, _)], rfl, ?_⟩
      exact ⟨_, _, ⟨a, c, a42, c42, Y, rfl, hm.inx, fun x hx => (hm.ins x hx).mono (List.subset_cons_self _ _), .inr List.mem_cons_self, hm.rel⟩, rfl, rfl⟩
end Go.Proofs.Ytcbigmgakdanjaa
namespace Go.Proofs.Ytcbigmgakdanjaa
open Go Go.SL Go.RowKit Go.RdM Go.WalM
set_option linter.unusedVariables false
set_option linter.unusedSimpArgs false
theorem tA52xf : aggB Try.prog 52 4 = true := by kernel_rfl
theorem tF41_0xf : fieldB Try.prog 41 0 0 = true := by kernel_rfl
theorem tF52_2xf : fieldB Try.prog 52 2 2 = true := by kernel_rfl
theorem tMixxf : Try.prog.follows .mixedOrders = true := by kernel_rfl
theorem tN52xf : (Try.prog.info? 52).bind (·.zero) = some (Value.agg #[Value.slice none 0 0, Value.int .i64 0, Value.slice none 0 0, Value.bool false]) := by kernel_rfl
theorem tO5xf : oneB Try.prog 5 = true := by kernel_rfl
theorem tZ35xf : (Try.prog.info? 35).map (·.size) = some 1 := by kernel_rfl
theorem tZ52xf : (Try.prog.info? 52).map (·.size) = some 4 := by kernel_rfl
set_option maxHeartbeats 2000000 in
set_option maxRecDepth 100000 in
theorem do_dis {σ : World} {F : List Res} {b d : Nat} {nm : RdM.Bs} {L : Lg} {s : DskM.St} {P1 : PS} {P2 : PX} {v : Value} (x : OpL) (hx : 0 ≤ x.k ∧ x.k ≤ 255) (hk : x.k % 8 = 5) (hS : Sm L) (hM : MS P1 P2 v L) :
    FnT Try.prog σ F 27 [.pointer (some ⟨d, 0, none⟩), .pointer (some ⟨b, 0, none⟩), v, .agg (encOpL x).toArray, .string (str nm)] [(601, dkR d s), (611, lgR b d nm L), (605, poolS P1), (606, poolX P2)]
      (fun u ρ => ∃ v', MS P1 P2 v' { L with pend := [] } ∧ u = .tuple #[.pointer (some ⟨b, 0, none⟩), v', .bool true, .bool false] ∧ ρ = [(601, dkR d s), (611, lgR b d nm { L with pend := [] }), (605, poolS P1), (606, poolX P2)]) := by
  refine fn_of 132 Try.func27 rfl Try.ntmps27 rfl ?_
  obtain ⟨a, c, p, cp, Y, hm⟩ := hM
  have hval := hm.val
  subst hval
  have hb := hS.br
  have hdl : discL L = { L with pend := [] } := by unfold discL; rw [if_neg (by simp [hb])]
  refine w_seq (w_region (wl_op [] rfl rfl rfl rfl (op_box (T := 52) (l := 7) rfl) ?_))
  rintro _ _ ⟨b7, rfl, rfl⟩
  refine wl_op [] rfl rfl rfl rfl (op_box (T := 41) (l := 8) rfl) ?_
  rintro _ _ ⟨b8, rfl, rfl⟩
  refine za rfl (wl_op [] rfl rfl rfl rfl (op_alloc (l := 11) tN52xf) ?_)
  rintro _ _ ⟨b11, rfl, rfl⟩
  refine za rfl (za rfl (wl_nil (st_tn (w_seq (w_seq (w_region (zd rfl (op_fieldAddr (off := 0) rfl tF41_0xf) (zd rfl (op_load1 rfl tO5xf (Ent.lab (l := 8) rfl (says_cel 0))) (zd rfl (op_remN rfl rfl (by omega) (by omega)) ?_)))))))))
  refine wl_nil (st_tn (w_block (w_seq (w_seq (w_region (zd rfl (op_val (v' := .bool false) (by rw [decide_eq_false (by omega)]) (op_eql rfl rfl)) ?_))))))
  refine za rfl (wl_nil (st_tn (w_cond_f (rfl) ?_)))
  refine w_seq (w_region (zd rfl (op_val (v' := .bool false) (by rw [decide_eq_false (by omega)]) (op_eql rfl rfl)) ?_))
  refine za rfl (wl_nil (st_tn (w_cond_f (rfl) ?_)))
  refine w_region (zd rfl (op_val (v' := .bool false) (by rw [decide_eq_false (by omega)]) (op_eql rfl rfl)) ?_)
  refine za rfl (wl_nil (st_tn (w_cond_f (rfl) ?_)))
  refine w_seq (w_seq (w_region (zd rfl (op_val (v' := .bool false) (by rw [decide_eq_false (by omega)]) (op_eql rfl rfl)) ?_)))
  refine za rfl (wl_nil (st_tn (w_cond_f (rfl) ?_)))
  refine w_region (zd rfl (op_val (v' := .bool false) (by rw [decide_eq_false (by omega)]) (op_eql rfl rfl)) ?_)
  refine za rfl (wl_nil (st_tn (w_cond_f (rfl) ?_)))
  refine w_seq (w_region (zd rfl (op_val (v' := .bool true) (by rw [decide_eq_true (by omega)]) (op_eql rfl rfl)) ?_))
  refine za rfl (wl_nil (st_tn (w_cond_t (rfl) ?_)))
  refine w_seq (w_region (zd rfl (op_loadA rfl tA52xf (Ent.lab (l := 7) rfl (says_cel 0)) (Nat.le_of_ble_eq_true rfl)) (wl_op0 [11] rfl rfl rfl (op_store rfl rfl tZ52xf (by rfl) (by rfl) (by exact Nat.le_of_ble_eq_true rfl)) ?_)))
  rintro _ _ ⟨rfl, rfl⟩
  refine wl_nil (st_tn (w_seq (w_region (zd rfl (op_fieldAddr (off := 2) rfl tF52_2xf) (wl_op0 [11] rfl rfl rfl (op_store rfl rfl tZ35xf (by rfl) (by rfl) (by exact Nat.le_of_ble_eq_true rfl)) ?_)))))
  rintro _ _ ⟨rfl, rfl⟩
  refine wl_nil (st_tn (w_seq ?_))
  refine w_drawW (fun β => [⟨88, [], [], [], noW (_), false, [], []⟩, ⟨89, [], [], [], noW (_), false, [6], []⟩, ⟨90, [], [], [], noW (_), false, [], []⟩, ⟨91, [2], [], [(611, _)], noW (_), false, [], []⟩, ⟨92, [3], [], [], noW (_), false, [], []⟩, ⟨10, [0], [], [], noW (_), false, [], []⟩, ⟨138, [1], [], [(11, _)], noW (_), false, [], []⟩]) [611, 11] [1, 11] [⟨88, [], [], false, [], []⟩, ⟨89, [], [], false, [6], []⟩, ⟨90, [], [], false, [], []⟩, ⟨91, [2], [], false, [], []⟩, ⟨92, [3], [], false, [], []⟩, ⟨10, [0], [], false, [], []⟩, ⟨138, [1], [], false, [], []⟩] [[], [], [], [], [], [], []] [[], [], [], [(611, _)], [], [], [(11, _)]] tMixxf (fun _ => by rfl) (fun _ => by rfl) (by kernel_rfl) (by kernel_rfl) (by rfl) (by rfl)
      (fun β => ⟨.p rfl (by intro X; exact op_move rfl),
      ⟨.p rfl (by intro X; exact op_loadA rfl tA52xf (Ent.lab (l := 11) rfl (says_cel 0)) (Nat.le_of_ble_eq_true rfl)),
      ⟨.p rfl (by intro X; exact op_move rfl),
      ⟨.p rfl (by intro X; rintro _ _ ⟨rfl, rfl⟩; exact op_fn Try.func23 rfl rfl rfl (fn_imp (ldiscard_c (L := L) 611) (fun u ρ hu => (⟨by rw [hu.1, if_neg (by simp [hb])], by rw [hu.2, hdl]⟩ : u = .int .i64 0 ∧ ρ = [(611, lgR b d nm { L with pend := [] })])))),
      ⟨.p rfl (by intro X; rintro _ _ ⟨rfl, rfl⟩; exact op_val (v' := .bool true) (by rfl) (op_eql rfl rfl)),
      ⟨.p rfl (by intro X; rintro _ _ ⟨rfl, rfl⟩; exact op_assign rfl),
      ⟨.p rfl (by intro X; rintro _ _ ⟨rfl, rfl⟩; exact op_store rfl rfl tZ52xf (by rfl) (by rfl) (by exact Nat.le_of_ble_eq_true rfl)) (hu := by exact .inr fun _ _ h => h.1),
      trivial⟩⟩⟩⟩⟩⟩⟩)
      (fun β β' => ⟨fun _ => by rfl, ⟨fun _ => by rfl, ⟨fun _ => by rfl, ⟨fun _ => by rfl, ⟨fun _ => by rfl, ⟨fun _ => by rfl, ⟨fun _ => by rfl, trivial⟩⟩⟩⟩⟩⟩⟩) ?_
  intro β
  rintro _ _ ⟨rfl, rfl⟩ _ _ ⟨rfl, rfl⟩ _ _ ⟨rfl, rfl⟩ _ _ ⟨rfl, rfl⟩ _ _ ⟨rfl, rfl⟩ _ _ ⟨rfl, rfl⟩ _ _ ⟨rfl, rfl⟩
  refine wl_norm (e' := [(10, _), (11, _), (92, _)]) (.cons rfl (.cons rfl (.cons rfl (.nil _)))) (by dsimp only [cond_false, cond_true, List.nil_append, List.cons_append]) ?_
  refine za rfl (za rfl (wl_nil (st_tn (w_ret (st_br (st_tr (st_ret (vs := [_, _, _, _]) [601, 611, 605, 606] Try.results27 ⟨rfl, ⟨⟨_, rfl, Ent.mono (Ent.lab (l := 11) rfl (says_cel 0)) (fun _ h => run_load_agg tA52xf h (Nat.le_of_ble_eq_true rfl))⟩, ⟨rfl, ⟨rfl, trivial⟩⟩⟩⟩ rfl ?_)))))))
  refine ⟨[(601, _), (611, _), (605, _), (606, _)], rfl, ?_⟩
  exact ⟨_, ⟨a, c, none, 0, Y, rfl, hm.inx, hm.ins, .inl ⟨rfl, rfl, rfl⟩, hm.rel⟩, rfl, rfl⟩
set_option maxHeartbeats 2000000 in
set_option maxRecDepth 100000 in
theorem do_open {σ : World} {F : List Res} {b d : Nat} {nm : RdM.Bs} {L : Lg} {s : DskM.St} {P1 : PS} {P2 : PX} {v : Value} (x : OpL) (hx : 0 ≤ x.k ∧ x.k ≤ 255) (hk : x.k % 8 = 7) (hS : Sm L) (hM : MS P1 P2 v L) (hok : DskM.nameB nm = true ∧ nm.length ≤ 48) (hdn : s.down = false) (hgD : DskM.Good s) (hO : OnD nm L s) :
    FnT Try.prog σ F 27 [.pointer (some ⟨d, 0, none⟩), .pointer (some ⟨b, 0, none⟩), v, .agg (encOpL x).toArray, .string (str nm)] [(601, dkR d s), (611, lgR b d nm L), (605, poolS P1), (606, poolX P2)]
      (fun u ρ => ∃ b' v', MS P1 P2 v' (openL L) ∧ u = .tuple #[.pointer (some ⟨b', 0, none⟩), v', .bool true, .bool false] ∧ ρ = [(601, dkR d s), (611, lgR b' d nm (openL L)), (605, poolS P1), (606, poolX P2)]) := by
  refine fn_of 132 Try.func27 rfl Try.ntmps27 rfl ?_
  obtain ⟨a, c, p, cp, Y, hm⟩ := hM
  have hval := hm.val
  subst hval
  have hsz := hS.ok.sz
  refine w_seq (w_region (wl_op [] rfl rfl rfl rfl (op_box (T := 52) (l := 7) rfl) ?_))
  rintro _ _ ⟨b7, rfl, rfl⟩
  refine wl_op [] rfl rfl rfl rfl (op_box (T := 41) (l := 8) rfl) ?_
  rintro _ _ ⟨b8, rfl, rfl⟩
  refine za rfl (wl_op [] rfl rfl rfl rfl (op_alloc (l := 11) tN52xf) ?_)
  rintro _ _ ⟨b11, rfl, rfl⟩
  refine za rfl (za rfl (wl_nil (st_tn (w_seq (w_seq (w_region (zd rfl (op_fieldAddr (off := 0) rfl tF41_0xf) (zd rfl (op_load1 rfl tO5xf (Ent.lab (l := 8) rfl (says_cel 0))) (zd rfl (op_remN rfl rfl (by omega) (by omega)) ?_)))))))))
  refine wl_nil (st_tn (w_block (w_seq (w_seq (w_region (zd rfl (op_val (v' := .bool false) (by rw [decide_eq_false (by omega)]) (op_eql rfl rfl)) ?_))))))
  refine za rfl (wl_nil (st_tn (w_cond_f (rfl) ?_)))
  refine w_seq (w_region (zd rfl (op_val (v' := .bool false) (by rw [decide_eq_false (by omega)]) (op_eql rfl rfl)) ?_))
  refine za rfl (wl_nil (st_tn (w_cond_f (rfl) ?_)))
  refine w_region (zd rfl (op_val (v' := .bool false) (by rw [decide_eq_false (by omega)]) (op_eql rfl rfl)) ?_)
  refine za rfl (wl_nil (st_tn (w_cond_f (rfl) ?_)))
  refine w_seq (w_seq (w_region (zd rfl (op_val (v' := .bool false) (by rw [decide_eq_false (by omega)]) (op_eql rfl rfl)) ?_)))
  refine za rfl (wl_nil (st_tn (w_cond_f (rfl) ?_)))
  refine w_region (zd rfl (op_val (v' := .bool false) (by rw [decide_eq_false (by omega)]) (op_eql rfl rfl)) ?_)
  refine za rfl (wl_nil (st_tn (w_cond_f (rfl) ?_)))
  refine w_seq (w_region (zd rfl (op_val (v' := .bool false) (by rw [decide_eq_false (by omega)]) (op_eql rfl rfl)) ?_))
  refine za rfl (wl_nil (st_tn (w_cond_f (rfl) ?_)))
  refine w_seq (w_region (zd rfl (op_val (v' := .bool false) (by rw [decide_eq_false (by omega)]) (op_eql rfl rfl)) ?_))
  refine za rfl (wl_nil (st_tn (w_cond_f (rfl) ?_)))
  refine w_skip (st_bn (st_tn (w_seq (w_region (zm rfl (zm rfl (wl_op [601] rfl rfl rfl rfl (op_fn Try.func16 rfl rfl rfl (lopen_c (s := s) (first := L.first) (segs := L.segs) 601 711 hok hdn hgD hS.ok.seg hO.holds (by omega))) ?_)))))))
  rintro _ _ ⟨b120, rfl, rfl⟩
  refine zm rfl (zd rfl (op_extract rfl rfl) (zd rfl (op_extract rfl rfl) (za rfl (za rfl (wl_nil (st_tn (w_seq (w_region (zm rfl (zd rfl (op_loadA rfl tA52xf (Ent.lab (l := 7) rfl (says_cel 0)) (Nat.le_of_ble_eq_true rfl)) (zd rfl (op_fn Try.func39 rfl rfl rfl mopen_any) (zm rfl (zd rfl (op_val (v' := .bool true) (by rfl) (op_eql rfl rfl)) ?_)))))))))))))
  refine zm rfl (wl_wanted_det rfl rfl rfl rfl rfl rfl rfl (op_move rfl) (wl_wanted_det rfl rfl rfl rfl rfl rfl rfl (op_val (v' := .bool true) (by rfl) (op_nePtr rfl Try.underlying23)) ?_))
  refine zd rfl (op_pick_t rfl rfl) (za rfl (wl_op0 [11] rfl rfl rfl (op_store rfl rfl tZ52xf (by rfl) (by rfl) (by exact Nat.le_of_ble_eq_true rfl)) ?_))
  rintro _ _ ⟨rfl, rfl⟩
  refine za rfl (za rfl (wl_nil (st_tn (w_ret (st_ret (vs := [_, _, _, _]) [601, 711, 605, 606] Try.results27 ⟨rfl, ⟨⟨_, rfl, Ent.mono (Ent.lab (l := 11) rfl (says_cel 0)) (fun _ h => run_load_agg tA52xf h (Nat.le_of_ble_eq_true rfl))⟩, ⟨rfl, ⟨rfl, trivial⟩⟩⟩⟩ rfl ?_)))))
  refine ⟨[(601, _), (611, _), (605, _), (606, _)], rfl, ?_⟩
  exact ⟨_, _, ⟨a, c, none, 0, Y, rfl, hm.inx, hm.ins, .inl ⟨rfl, rfl, rfl⟩, hm.rel⟩, rfl, rfl⟩
theorem noteX_mem {Y : List SegV} {o : Bool} {pend : List RdM.Bs} {q : Option Addr} {cq : Nat} {x : SegV} (h : x ∈ noteX Y o pend q cq) : x ∈ Y ∨ (x.q = q ∧ x.cq = cq ∧ x.recs = recsN Y o pend) := by
  rcases List.eq_nil_or_concat Y with h0 | ⟨S', y, rfl⟩
  · subst h0
    simp [noteX] at h; subst h; exact .inr ⟨rfl, rfl, rfl⟩
  · rw [List.concat_eq_append] at h ⊢
    unfold noteX at h
    unfold recsN
    rw [List.getLast?_concat] at h ⊢
    dsimp only at h ⊢
    split at h
    · rename_i hy
      rw [if_pos hy]
      rcases List.mem_append.1 h with h | h
      · exact .inl h
      · rw [List.mem_singleton] at h; subst h; exact .inr ⟨rfl, rfl, rfl⟩
    · rename_i hy
      rw [if_neg hy]
      rw [List.dropLast_concat] at h
      rcases List.mem_append.1 h with h | h
      · exact .inl (List.mem_append_left _ h)
      · rw [List.mem_singleton] at h; subst h; exact .inr ⟨rfl, rfl, rfl⟩
theorem yrel_note {Y : List SegV} {S : List Sg} {o : Bool} {pend : List RdM.Bs} {q : Option Addr} {cq : Nat} (h : Yrel Y S) : Yrel (noteX Y o pend q cq) (noteS S (nextN S o) pend) := by
  rcases List.eq_nil_or_concat Y with h0 | ⟨Y', y, rfl⟩
  · subst h0
    have hS : S = [] := List.eq_nil_of_length_eq_zero (by rw [← h.len]; rfl)
    subst hS; simp [Yrel, noteX, noteS, nextN, Sg.recs]
  · rcases List.eq_nil_or_concat S with h0 | ⟨S', s, rfl⟩
    · subst h0; have := h.len; simp at this
    · rw [List.concat_eq_append, List.concat_eq_append] at *
      unfold Yrel at h
      rw [List.map_append, List.map_append] at h
      obtain ⟨h1, h2⟩ := List.append_inj' h rfl
      simp only [List.map_cons, List.map_nil, List.cons.injEq, Prod.mk.injEq, and_true] at h2
      obtain ⟨e1, e2, e3⟩ := h2
      by_cases hc : o = true ∨ 8 ≤ s.gs.length
      · have hn : nextN (S' ++ [s]) o = s.num + 1 := by unfold nextN; rw [List.getLast?_concat]; exact if_pos hc
        have hx : noteX (Y' ++ [y]) o pend q cq = Y' ++ [y] ++ [⟨y.num + 1, 1, q, cq, pend⟩] := by
          unfold noteX; rw [List.getLast?_concat]; dsimp only; rw [e2, if_pos hc]
        rw [hn, hx, noteS_new (fun z hz => by rw [List.getLast?_concat] at hz; simp at hz; subst hz; omega)]
        unfold Yrel
        rw [List.map_append, List.map_append, List.map_append, List.map_append, h1]
        simp [e1, e2, e3, Sg.recs]
      · have hn : nextN (S' ++ [s]) o = s.num := by unfold nextN; rw [List.getLast?_concat]; exact if_neg hc
        have hx : noteX (Y' ++ [y]) o pend q cq = Y' ++ [⟨y.num, y.grp + 1, q, cq, y.recs ++ pend⟩] := by
          unfold noteX; rw [List.getLast?_concat]; dsimp only; rw [e2, if_neg hc, List.dropLast_concat]
        obtain ⟨sn, sg⟩ := s
        rw [hn, hx, noteS_old]
        unfold Yrel
        rw [List.map_append, List.map_append, h1]
        simp [e1, e2, e3, Sg.recs]
end Go.Proofs.Ytcbigmgakdanjaa
namespace Go.Proofs.Ytcbigmgakdanjaa
open Go Go.SL Go.RowKit Go.RdM Go.WalM
set_option linter.unusedVariables false
set_option linter.unusedSimpArgs false
theorem tA41xg : aggB Try.prog 41 3 = true := by kernel_rfl
theorem tA52xg : aggB Try.prog 52 4 = true := by kernel_rfl
theorem tF41_0xg : fieldB Try.prog 41 0 0 = true := by kernel_rfl
theorem tF52_0xg : fieldB Try.prog 52 0 0 = true := by kernel_rfl
theorem tMixxg : Try.prog.follows .mixedOrders = true := by kernel_rfl
theorem tN52xg : (Try.prog.info? 52).bind (·.zero) = some (Value.agg #[Value.slice none 0 0, Value.int .i64 0, Value.slice none 0 0, Value.bool false]) := by kernel_rfl
theorem tO5xg : oneB Try.prog 5 = true := by kernel_rfl
theorem tO50xg : oneB Try.prog 50 = true := by kernel_rfl
theorem tS50xg : sliceB Try.prog 50 96 3 = true := by kernel_rfl
theorem tZ52xg : (Try.prog.info? 52).map (·.size) = some 4 := by kernel_rfl
theorem commitL_nil {L : Lg} (h : L.pend = []) : commitL L = L := by unfold commitL; rw [if_pos h]
theorem allR_commit (L : Lg) : allR (commitL L).segs = allR L.segs ++ L.pend := by
  by_cases h : L.pend = []
  · rw [commitL_nil h, h, List.append_nil]
  · rw [lastN_commit h]; exact noteS_all _ _ _
theorem first_commit (L : Lg) : (commitL L).first = L.first := by unfold commitL; split <;> rfl
theorem ms_commit {P1 : PS} {P2 : PX} {v : Value} {L : Lg} {a p : Option Addr} {c cp : Nat} {Y : List SegV} (hm : MSt P1 P2 v L a c p cp Y) (hp : L.pend ≠ []) (a' q : Option Addr) (c' cq : Nat) :
    MSt ((.slice q (recsN Y L.fresh L.pend).length cq, recsN Y L.fresh L.pend) :: P1) ((.slice a' (noteX Y L.fresh L.pend q cq).length c', noteX Y L.fresh L.pend q cq) :: P2) (.agg #[.slice a' (noteX Y L.fresh L.pend q cq).length c', .int .i64 L.first, .slice none 0 0, .bool false]) (commitL L) a' c' none 0 (noteX Y L.fresh L.pend q cq) := by
  rw [lastN_commit hp]
  refine ⟨rfl, .base List.mem_cons_self, fun x hx => ?_, .inl ⟨rfl, rfl, rfl⟩, yrel_note hm.rel⟩
  rcases noteX_mem hx with h | ⟨h1, h2, h3⟩
  · exact (hm.ins x h).mono (List.subset_cons_self _ _)
  · refine .inr ?_
    rw [h1, h2, h3]; exact List.mem_cons_self
set_option maxHeartbeats 4000000 in
set_option maxRecDepth 100000 in
theorem do_com {σ : World} {F : List Res} {b d : Nat} {nm : RdM.Bs} {L L' : Lg} {s s' : DskM.St} {P1 : PS} {P2 : PX} {v : Value} {n e : Int} (x : OpL) (hx : 0 ≤ x.k ∧ x.k ≤ 255) (hk : x.k % 8 = 3 ∨ x.k % 8 = 4) (hS : Sm L) (hM : MS P1 P2 v L) (hc : comO nm L s = ((n, e), L', s')) (he : e = 27 ∨ e = 0 ∧ n = lastN (commitL L)) (hg : DskM.Good s) (hnm : nm.length ≤ 48) (hnx : nextN L.segs L.fresh ≤ 999999) :
    FnT Try.prog σ F 27 [.pointer (some ⟨d, 0, none⟩), .pointer (some ⟨b, 0, none⟩), v, .agg (encOpL x).toArray, .string (str nm)] [(601, dkR d s), (611, lgR b d nm L), (605, poolS P1), (606, poolX P2)]
      (fun u ρ => ∃ v' P1' P2', P1 ⊆ P1' ∧ P2 ⊆ P2' ∧ MS P1' P2' v' (commitL L) ∧ u = .tuple #[.pointer (some ⟨b, 0, none⟩), v', .bool true, .bool (decide (e = 27))] ∧ ρ = [(601, dkR d s'), (611, lgR b d nm L'), (605, poolS P1'), (606, poolX P2')]) := by
  refine fn_of 132 Try.func27 rfl Try.ntmps27 rfl ?_
  obtain ⟨a, c, p, cp, Y, hm⟩ := hM
  have hval := hm.val
  subst hval
  have hb := hS.br
  have hpe := hS.pe
  have hal := hS.all
  have hfs := hS.fst
  have hsg := hS.segl
  have hYl := hm.rel.len
  have hrec := congrArg List.length hm.rel.recs
  have hpos := hS.ok.seg.pos
  have hac := allR_commit L
  have hfc := first_commit L
  have hacl := congrArg List.length hac
  rw [List.length_append] at hacl
  refine w_seq (w_region (wl_op [] rfl rfl rfl rfl (op_box (T := 52) (l := 7) rfl) ?_))
  rintro _ _ ⟨b7, rfl, rfl⟩
  refine wl_op [] rfl rfl rfl rfl (op_box (T := 41) (l := 8) rfl) ?_
  rintro _ _ ⟨b8, rfl, rfl⟩
  refine za rfl (wl_op [] rfl rfl rfl rfl (op_alloc (l := 11) tN52xg) ?_)
  rintro _ _ ⟨b11, rfl, rfl⟩
  refine za rfl (za rfl (wl_nil (st_tn (w_seq (w_seq (w_region (zd rfl (op_fieldAddr (off := 0) rfl tF41_0xg) (zd rfl (op_load1 rfl tO5xg (Ent.lab (l := 8) rfl (says_cel 0))) (zd rfl (op_remN rfl rfl (by omega) (by omega)) ?_)))))))))
  refine wl_nil (st_tn (w_block (w_seq (w_seq (w_region (zd rfl (op_val (v' := .bool false) (by rw [decide_eq_false (by omega)]) (op_eql rfl rfl)) ?_))))))
  refine za rfl (wl_nil (st_tn (w_cond_f (rfl) ?_)))
  refine w_seq (w_region (zd rfl (op_val (v' := .bool false) (by rw [decide_eq_false (by omega)]) (op_eql rfl rfl)) ?_))
  refine za rfl (wl_nil (st_tn (w_cond_f (rfl) ?_)))
  refine w_region (zd rfl (op_val (v' := .bool false) (by rw [decide_eq_false (by omega)]) (op_eql rfl rfl)) ?_)
  refine za rfl (wl_nil (st_tn (w_cond_f (rfl) ?_)))
  refine w_seq (w_seq ?_)
  by_cases h3 : x.k % 8 = 3
  · -- h3+
    refine w_region (zd rfl (op_val (v' := .bool true) (by rw [decide_eq_true (by omega)]) (op_eql rfl rfl)) ?_)
    refine za rfl (wl_nil (st_tn (w_cond_t (rfl) ?_)))
    refine w_skip (st_tn (w_cond_t (rfl) ?_))
    refine w_seq ?_
    by_cases hpd : L.pend.length = 0
    · -- hpd+
      have hp0 : L.pend = [] := List.eq_nil_of_length_eq_zero hpd
      have hcl := commitL_nil hp0
      refine w_region (zd rfl (op_loadA rfl tA52xg (Ent.lab (l := 7) rfl (says_cel 0)) (Nat.le_of_ble_eq_true rfl)) (zd rfl (op_fn Try.func56 rfl rfl rfl (mcommit_nil (hm.slp rfl (by omega)) hpd)) ?_))
      refine wl_op0 [11] rfl rfl rfl (op_store rfl rfl tZ52xg (by rfl) (by rfl) (by exact Nat.le_of_ble_eq_true rfl)) ?_
      rintro _ _ ⟨rfl, rfl⟩
      refine wl_nil (st_tn (w_seq (w_region (zm rfl (wl_op [601, 611] rfl rfl rfl rfl (op_fn Try.func15 rfl rfl rfl (commit_to 601 611 hc hS.ok hg hnm hnx)) ?_)))))
      rintro _ _ ⟨rfl, rfl⟩
      refine zm rfl (zd rfl (op_extract rfl rfl) (zd rfl (op_extract rfl rfl) (za rfl (za rfl (wl_nil (st_tn (w_seq ?_)))))))
      by_cases h27 : e = 27
      · -- h27+
        refine w_drawW (fun β => [⟨68, [], [], [], noW (_), false, [], []⟩, ⟨69, [], [], [], noW (_), false, [17], []⟩, ⟨70, [], [], [], noW (_), false, [], []⟩, ⟨71, [2], [], [], noW (_), false, [], []⟩, ⟨72, [3], [], [], noW (_), false, [], []⟩, ⟨73, [], [], [], noW (Det undef), false, [], []⟩, ⟨74, [], [], [], noW (Det undef), false, [], []⟩, ⟨75, [], [], [], noW (Det undef), false, [], []⟩, ⟨76, [], [], [], noW (Det undef), false, [], []⟩, ⟨77, [], [], [], noW (Det undef), false, [], []⟩, ⟨78, [], [], [], noW (Det undef), false, [], []⟩, ⟨79, [], [], [], noW (Det undef), false, [], []⟩, ⟨80, [], [], [], noW (Det undef), false, [], []⟩, ⟨81, [4, 12], [], [], noW (_), false, [], []⟩, ⟨82, [], [], [], noW (_), false, [], []⟩, ⟨83, [14], [], [], noW (_), false, [], []⟩, ⟨10, [0], [], [], noW (_), false, [], []⟩, ⟨149, [1], [], [(11, _)], noW (_), false, [], []⟩, ⟨12, [13], [], [], noW (_), false, [], []⟩]) [11] [1, 11, 17, 16] [⟨68, [], [], false, [], []⟩, ⟨69, [], [], false, [17], []⟩, ⟨70, [], [], false, [], []⟩, ⟨71, [2], [], false, [], []⟩, ⟨72, [3], [], false, [], []⟩, ⟨73, [], [], false, [], []⟩, ⟨74, [], [], false, [], []⟩, ⟨75, [], [], false, [], []⟩, ⟨76, [], [], false, [], []⟩, ⟨77, [], [], false, [], []⟩, ⟨78, [], [], false, [], []⟩, ⟨79, [], [], false, [], []⟩, ⟨80, [], [], false, [], []⟩, ⟨81, [4, 12], [], false, [], []⟩, ⟨82, [], [], false, [], []⟩, ⟨83, [14], [], false, [], []⟩, ⟨10, [0], [], false, [], []⟩, ⟨149, [1], [], false, [], []⟩, ⟨12, [13], [], false, [], []⟩] [[], [], [], [], [], [], [], [], [], [], [], [], [], [], [], [], [], [], []] [[], [], [], [], [], [], [], [], [], [], [], [], [], [], [], [], [], [(11, _)], []] tMixxg (fun _ => by rfl) (fun _ => by rfl) (by kernel_rfl) (by kernel_rfl) (by rfl) (by rfl)
            (fun β => ⟨.p rfl (by intro X; exact op_move rfl),
            ⟨.p rfl (by intro X; exact op_loadA rfl tA52xg (Ent.lab (l := 11) rfl (says_cel 0)) (Nat.le_of_ble_eq_true rfl)),
            ⟨.p rfl (by intro X; exact op_move rfl),
            ⟨.p rfl (by intro X; rintro _ _ ⟨rfl, rfl⟩; exact op_val (v' := .bool true) (by rw [decide_eq_true h27]) (op_eql rfl rfl)),
            ⟨.p rfl (by intro X; rintro _ _ ⟨rfl, rfl⟩; exact op_move rfl),
            ⟨.u rfl rfl rfl (by rintro _ _ ⟨rfl, rfl⟩; exact congrArg (offB false) (by rfl : _ = Value.bool true)) ⟨rfl, rfl⟩ rfl rfl,
            ⟨.u rfl rfl rfl (by rintro _ _ ⟨rfl, rfl⟩; exact congrArg (offB false) (by rfl : _ = Value.bool true)) ⟨rfl, rfl⟩ rfl rfl,
            ⟨.u rfl rfl rfl (by rintro _ _ ⟨rfl, rfl⟩; exact congrArg (offB false) (by rfl : _ = Value.bool true)) ⟨rfl, rfl⟩ rfl rfl,
            ⟨.u rfl rfl rfl (by rintro _ _ ⟨rfl, rfl⟩; rfl) ⟨rfl, rfl⟩ rfl rfl,
            ⟨.u rfl rfl rfl (by rintro _ _ ⟨rfl, rfl⟩; rfl) ⟨rfl, rfl⟩ rfl rfl,
            ⟨.u rfl rfl rfl (by rintro _ _ ⟨rfl, rfl⟩; rfl) ⟨rfl, rfl⟩ rfl rfl,
            ⟨.u rfl rfl rfl (by rintro _ _ ⟨rfl, rfl⟩; rfl) ⟨rfl, rfl⟩ rfl rfl,
            ⟨.u rfl rfl rfl (by rintro _ _ ⟨rfl, rfl⟩; exact congrArg (offB false) (by rfl : _ = Value.bool true)) ⟨rfl, rfl⟩ rfl rfl,
            ⟨.p rfl (by intro X; rintro _ _ ⟨rfl, rfl⟩ _ _ ⟨rfl, rfl⟩; exact op_pick_t rfl rfl),
            ⟨.p rfl (by intro X; exact op_move rfl),
            ⟨.p rfl (by intro X; rintro _ _ ⟨rfl, rfl⟩; exact op_eql rfl rfl),
            ⟨.p rfl (by intro X; rintro _ _ ⟨rfl, rfl⟩; exact op_assign rfl),
            ⟨.p rfl (by intro X; rintro _ _ ⟨rfl, rfl⟩; exact op_store rfl rfl tZ52xg (by rfl) (by rfl) (by exact Nat.le_of_ble_eq_true rfl)) (hu := by exact .inr fun _ _ h => h.1),
            ⟨.p rfl (by intro X; rintro _ _ ⟨rfl, rfl⟩; exact op_assign rfl),
            trivial⟩⟩⟩⟩⟩⟩⟩⟩⟩⟩⟩⟩⟩⟩⟩⟩⟩⟩⟩)
            (fun β β' => ⟨fun _ => by rfl, ⟨fun _ => by rfl, ⟨fun _ => by rfl, ⟨fun _ => by rfl, ⟨fun _ => by rfl, ⟨fun _ => by rfl, ⟨fun _ => by rfl, ⟨fun _ => by rfl, ⟨fun _ => by rfl, ⟨fun _ => by rfl, ⟨fun _ => by rfl, ⟨fun _ => by rfl, ⟨fun _ => by rfl, ⟨fun _ => by rfl, ⟨fun _ => by rfl, ⟨fun _ => by rfl, ⟨fun _ => by rfl, ⟨fun _ => by rfl, ⟨fun _ => by rfl, trivial⟩⟩⟩⟩⟩⟩⟩⟩⟩⟩⟩⟩⟩⟩⟩⟩⟩⟩⟩) ?_
        intro β
        rintro _ _ ⟨rfl, rfl⟩ _ _ ⟨rfl, rfl⟩ _ _ ⟨rfl, rfl⟩ _ _ ⟨rfl, rfl⟩ _ _ ⟨rfl, rfl⟩ _ _ ⟨rfl, rfl⟩ _ _ ⟨rfl, rfl⟩ _ _ ⟨rfl, rfl⟩ _ _ ⟨rfl, rfl⟩ _ _ ⟨rfl, rfl⟩ _ _ ⟨rfl, rfl⟩ _ _ ⟨rfl, rfl⟩ _ _ ⟨rfl, rfl⟩ _ _ ⟨rfl, rfl⟩ _ _ ⟨rfl, rfl⟩ _ _ ⟨rfl, rfl⟩ _ _ ⟨rfl, rfl⟩ _ _ ⟨rfl, rfl⟩ _ _ ⟨rfl, rfl⟩
        refine wl_norm (e' := [(10, _), (11, _), (12, _), (83, _)]) (.cons rfl (.cons rfl (.cons rfl (.cons rfl (.nil _))))) (by dsimp only [cond_false, cond_true, List.nil_append, List.cons_append]) ?_
        refine za rfl (wl_nil (st_tn (w_ret (st_br (st_tr (st_ret (vs := [_, _, _, _]) [601, 611, 605, 606] Try.results27 ⟨rfl, ⟨⟨_, rfl, Ent.mono (Ent.lab (l := 11) rfl (says_cel 0)) (fun _ h => run_load_agg tA52xg h (Nat.le_of_ble_eq_true rfl))⟩, ⟨rfl, ⟨rfl, trivial⟩⟩⟩⟩ rfl ?_))))))
        refine ⟨[(601, _), (611, _), (605, _), (606, _)], rfl, ?_⟩
        rw [hcl]; exact ⟨_, P1, P2, fun _ h => h, fun _ h => h, ⟨a, c, p, cp, Y, hm⟩, rfl, rfl⟩
      · -- h27-
        obtain ⟨he0, hnl⟩ : e = 0 ∧ n = lastN (commitL L) := he.resolve_left h27
        have hln : (n : Int) = L.first + ((allR L.segs).length + L.pend.length) - 1 := by rw [hnl]; unfold lastN; rw [hfc, hacl]; omega
        refine w_drawW (fun β => [⟨68, [], [], [], noW (_), false, [], []⟩, ⟨69, [], [], [], noW (_), false, [17], []⟩, ⟨70, [], [], [], noW (_), false, [], []⟩, ⟨71, [2], [], [], noW (_), false, [], []⟩, ⟨72, [3], [], [], noW (_), false, [], []⟩, ⟨73, [], [], [], noW (_), false, [], []⟩, ⟨74, [5], [], [], noW (_), false, [], []⟩, ⟨75, [6], [], [], noW (_), false, [], []⟩, ⟨76, [], [], [], noW (_), false, [], []⟩, ⟨77, [], [], [], noW (_), false, [17], []⟩, ⟨78, [9], [], [], noW (_), false, [], []⟩, ⟨79, [8, 10], [], [], noW (_), false, [], []⟩, ⟨80, [7, 11], [], [], noW (_), false, [], []⟩, ⟨81, [4, 12], [], [], noW (_), false, [], []⟩, ⟨82, [], [], [], noW (_), false, [], []⟩, ⟨83, [14], [], [], noW (_), false, [], []⟩, ⟨10, [0], [], [], noW (_), false, [], []⟩, ⟨149, [1], [], [(11, _)], noW (_), false, [], []⟩, ⟨12, [13], [], [], noW (_), false, [], []⟩]) [11] [1, 11, 17, 16] [⟨68, [], [], false, [], []⟩, ⟨69, [], [], false, [17], []⟩, ⟨70, [], [], false, [], []⟩, ⟨71, [2], [], false, [], []⟩, ⟨72, [3], [], false, [], []⟩, ⟨73, [], [], false, [], []⟩, ⟨74, [5], [], false, [], []⟩, ⟨75, [6], [], false, [], []⟩, ⟨76, [], [], false, [], []⟩, ⟨77, [], [], false, [17], []⟩, ⟨78, [9], [], false, [], []⟩, ⟨79, [8, 10], [], false, [], []⟩, ⟨80, [7, 11], [], false, [], []⟩, ⟨81, [4, 12], [], false, [], []⟩, ⟨82, [], [], false, [], []⟩, ⟨83, [14], [], false, [], []⟩, ⟨10, [0], [], false, [], []⟩, ⟨149, [1], [], false, [], []⟩, ⟨12, [13], [], false, [], []⟩] [[], [], [], [], [], [], [], [], [], [], [], [], [], [], [], [], [], [], []] [[], [], [], [], [], [], [], [], [], [], [], [], [], [], [], [], [], [(11, _)], []] tMixxg (fun _ => by rfl) (fun _ => by rfl) (by kernel_rfl) (by kernel_rfl) (by rfl) (by rfl)
            (fun β => ⟨.p rfl (by intro X; exact op_move rfl),
            ⟨.p rfl (by intro X; exact op_loadA rfl tA52xg (Ent.lab (l := 11) rfl (says_cel 0)) (Nat.le_of_ble_eq_true rfl)),
            ⟨.p rfl (by intro X; exact op_move rfl),
            ⟨.p rfl (by intro X; rintro _ _ ⟨rfl, rfl⟩; exact op_val (v' := .bool false) (by rw [decide_eq_false h27]) (op_eql rfl rfl)),
            ⟨.p rfl (by intro X; rintro _ _ ⟨rfl, rfl⟩; exact op_move rfl),
            ⟨.w rfl rfl rfl (by rintro _ _ ⟨rfl, rfl⟩; rfl) (by intro X; exact op_move rfl),
            ⟨.w rfl rfl rfl (by rintro _ _ ⟨rfl, rfl⟩; rfl) (by intro X; rintro _ _ ⟨rfl, rfl⟩; exact op_val (v' := .bool true) (by rw [decide_eq_true he0]) (op_eql rfl rfl)),
            ⟨.w rfl rfl rfl (by rintro _ _ ⟨rfl, rfl⟩; rfl) (by intro X; rintro _ _ ⟨rfl, rfl⟩; exact op_move rfl),
            ⟨.w rfl rfl rfl (by rintro _ _ ⟨rfl, rfl⟩; rfl) (by intro X; exact op_move rfl),
            ⟨.w rfl rfl rfl (by rintro _ _ ⟨rfl, rfl⟩; rfl) (by intro X; exact op_loadA rfl tA52xg (Ent.lab (l := 11) rfl (says_cel 0)) (Nat.le_of_ble_eq_true rfl)),
            ⟨.w rfl rfl rfl (by rintro _ _ ⟨rfl, rfl⟩; rfl) (by intro X; rintro _ _ ⟨rfl, rfl⟩; exact op_fn Try.func29 rfl rfl rfl (mlast_any (hm.slx rfl (by omega)) (hm.slr rfl (by omega)) (by omega) (by omega))),
            ⟨.w rfl rfl rfl (by rintro _ _ ⟨rfl, rfl⟩; rfl) (by intro X; rintro _ _ ⟨rfl, rfl⟩ _ _ ⟨rfl, rfl⟩; exact op_val (v' := .bool true) (by rw [decide_eq_true (by omega)]) (op_eql rfl rfl)),
            ⟨.w rfl rfl rfl (by rintro _ _ ⟨rfl, rfl⟩; rfl) (by intro X; rintro _ _ ⟨rfl, rfl⟩ _ _ ⟨rfl, rfl⟩; exact op_pick_t rfl rfl),
            ⟨.p rfl (by intro X; rintro _ _ ⟨rfl, rfl⟩ _ _ ⟨rfl, rfl⟩; exact op_pick_f rfl rfl),
            ⟨.p rfl (by intro X; exact op_move rfl),
            ⟨.p rfl (by intro X; rintro _ _ ⟨rfl, rfl⟩; exact op_eql rfl rfl),
            ⟨.p rfl (by intro X; rintro _ _ ⟨rfl, rfl⟩; exact op_assign rfl),
            ⟨.p rfl (by intro X; rintro _ _ ⟨rfl, rfl⟩; exact op_store rfl rfl tZ52xg (by rfl) (by rfl) (by exact Nat.le_of_ble_eq_true rfl)) (hu := by exact .inr fun _ _ h => h.1),
            ⟨.p rfl (by intro X; rintro _ _ ⟨rfl, rfl⟩; exact op_assign rfl),
            trivial⟩⟩⟩⟩⟩⟩⟩⟩⟩⟩⟩⟩⟩⟩⟩⟩⟩⟩⟩)
            (fun β β' => ⟨fun _ => by rfl, ⟨fun _ => by rfl, ⟨fun _ => by rfl, ⟨fun _ => by rfl, ⟨fun _ => by rfl, ⟨fun _ => by rfl, ⟨fun _ => by rfl, ⟨fun _ => by rfl, ⟨fun _ => by rfl, ⟨fun _ => by rfl, ⟨fun _ => by rfl, ⟨fun _ => by rfl, ⟨fun _ => by rfl, ⟨fun _ => by rfl, ⟨fun _ => by rfl, ⟨fun _ => by rfl, ⟨fun _ => by rfl, ⟨fun _ => by rfl, ⟨fun _ => by rfl, trivial⟩⟩⟩⟩⟩⟩⟩⟩⟩⟩⟩⟩⟩⟩⟩⟩⟩⟩⟩) ?_
        intro β
        rintro _ _ ⟨rfl, rfl⟩ _ _ ⟨rfl, rfl⟩ _ _ ⟨rfl, rfl⟩ _ _ ⟨rfl, rfl⟩ _ _ ⟨rfl, rfl⟩ _ _ ⟨rfl, rfl⟩ _ _ ⟨rfl, rfl⟩ _ _ ⟨rfl, rfl⟩ _ _ ⟨rfl, rfl⟩ _ _ ⟨rfl, rfl⟩ _ _ ⟨rfl, rfl⟩ _ _ ⟨rfl, rfl⟩ _ _ ⟨rfl, rfl⟩ _ _ ⟨rfl, rfl⟩ _ _ ⟨rfl, rfl⟩ _ _ ⟨rfl, rfl⟩ _ _ ⟨rfl, rfl⟩ _ _ ⟨rfl, rfl⟩ _ _ ⟨rfl, rfl⟩
        refine wl_norm (e' := [(10, _), (11, _), (12, _), (83, _)]) (.cons rfl (.cons rfl (.cons rfl (.cons rfl (.nil _))))) (by dsimp only [cond_false, cond_true, List.nil_append, List.cons_append]) ?_
        refine za rfl (wl_nil (st_tn (w_ret (st_br (st_tr (st_ret (vs := [_, _, _, _]) [601, 611, 605, 606] Try.results27 ⟨rfl, ⟨⟨_, rfl, Ent.mono (Ent.lab (l := 11) rfl (says_cel 0)) (fun _ h => run_load_agg tA52xg h (Nat.le_of_ble_eq_true rfl))⟩, ⟨rfl, ⟨rfl, trivial⟩⟩⟩⟩ rfl ?_))))))
        refine ⟨[(601, _), (611, _), (605, _), (606, _)], rfl, ?_⟩
        rw [hcl]; exact ⟨_, P1, P2, fun _ h => h, fun _ h => h, ⟨a, c, p, cp, Y, hm⟩, rfl, rfl⟩
    · -- hpd-
      have hp0 : L.pend ≠ [] := fun h => hpd (by rw [h]; rfl)
      refine w_region (zd rfl (op_loadA rfl tA52xg (Ent.lab (l := 7) rfl (says_cel 0)) (Nat.le_of_ble_eq_true rfl)) (wl_op [] rfl rfl rfl rfl (op_fn Try.func56 rfl rfl rfl (mcommit_go 162 163 (hm.slx rfl (by omega)) (hm.slr rfl (by omega)) (hm.slp rfl (by omega)) (by omega) (by omega) (by omega) (fun y hy => by obtain ⟨z, hz, e1, e2, e3⟩ := hm.rel.mem hy; have h4 := hS.ok.seg.num z hz; have h5 := gs_le (hS.ok.seg.grp z hz); have h6 := recs_le hz; rw [e1, e2, e3]; omega))) ?_))
      rintro _ _ ⟨a62, c62, q62, cq62, rfl, rfl⟩
      refine wl_op0 [11] rfl rfl rfl (op_store rfl rfl tZ52xg (by rfl) (by rfl) (by exact Nat.le_of_ble_eq_true rfl)) ?_
      rintro _ _ ⟨rfl, rfl⟩
      refine wl_nil (st_tn (w_seq (w_star 163 605 605 rfl ?_)))
      refine w_wk 605 (poolS ((.slice q62 (recsN Y L.fresh L.pend).length cq62, recsN Y L.fresh L.pend) :: P1)) rfl (fun _ h => h) ?_
      refine w_star 162 606 606 rfl ?_
      refine w_wk 606 (poolX ((.slice a62 (noteX Y L.fresh L.pend q62 cq62).length c62, noteX Y L.fresh L.pend q62 cq62) :: P2)) rfl (fun _ h => h) ?_
      have hm2 := ms_commit hm hp0 a62 q62 c62 cq62
      have hYl2 := hm2.rel.len
      have hseg2 := segs_le_all (segs := (commitL L).segs) (by rw [lastN_commit hp0]; exact (oks_note hS.ok.seg rfl ⟨hp0, hS.ok.pl, hS.ok.pc⟩ hnx).grp)
      have hrec2 := congrArg List.length hm2.rel.recs
      refine w_region (zm rfl (wl_op [601, 611] rfl rfl rfl rfl (op_fn Try.func15 rfl rfl rfl (commit_to 601 611 hc hS.ok hg hnm hnx)) ?_))
      rintro _ _ ⟨rfl, rfl⟩
      refine zm rfl (zd rfl (op_extract rfl rfl) (zd rfl (op_extract rfl rfl) (za rfl (za rfl (wl_nil (st_tn (w_seq ?_)))))))
      by_cases h27 : e = 27
      · -- h27+
        refine w_drawW (fun β => [⟨68, [], [], [], noW (_), false, [], []⟩, ⟨69, [], [], [], noW (_), false, [17], []⟩, ⟨70, [], [], [], noW (_), false, [], []⟩, ⟨71, [2], [], [], noW (_), false, [], []⟩, ⟨72, [3], [], [], noW (_), false, [], []⟩, ⟨73, [], [], [], noW (Det undef), false, [], []⟩, ⟨74, [], [], [], noW (Det undef), false, [], []⟩, ⟨75, [], [], [], noW (Det undef), false, [], []⟩, ⟨76, [], [], [], noW (Det undef), false, [], []⟩, ⟨77, [], [], [], noW (Det undef), false, [], []⟩, ⟨78, [], [], [], noW (Det undef), false, [], []⟩, ⟨79, [], [], [], noW (Det undef), false, [], []⟩, ⟨80, [], [], [], noW (Det undef), false, [], []⟩, ⟨81, [4, 12], [], [], noW (_), false, [], []⟩, ⟨82, [], [], [], noW (_), false, [], []⟩, ⟨83, [14], [], [], noW (_), false, [], []⟩, ⟨10, [0], [], [], noW (_), false, [], []⟩, ⟨149, [1], [], [(11, _)], noW (_), false, [], []⟩, ⟨12, [13], [], [], noW (_), false, [], []⟩]) [11] [1, 11, 17, 16] [⟨68, [], [], false, [], []⟩, ⟨69, [], [], false, [17], []⟩, ⟨70, [], [], false, [], []⟩, ⟨71, [2], [], false, [], []⟩, ⟨72, [3], [], false, [], []⟩, ⟨73, [], [], false, [], []⟩, ⟨74, [], [], false, [], []⟩, ⟨75, [], [], false, [], []⟩, ⟨76, [], [], false, [], []⟩, ⟨77, [], [], false, [], []⟩, ⟨78, [], [], false, [], []⟩, ⟨79, [], [], false, [], []⟩, ⟨80, [], [], false, [], []⟩, ⟨81, [4, 12], [], false, [], []⟩, ⟨82, [], [], false, [], []⟩, ⟨83, [14], [], false, [], []⟩, ⟨10, [0], [], false, [], []⟩, ⟨149, [1], [], false, [], []⟩, ⟨12, [13], [], false, [], []⟩] [[], [], [], [], [], [], [], [], [], [], [], [], [], [], [], [], [], [], []] [[], [], [], [], [], [], [], [], [], [], [], [], [], [], [], [], [], [(11, _)], []] tMixxg (fun _ => by rfl) (fun _ => by rfl) (by kernel_rfl) (by kernel_rfl) (by rfl) (by rfl)
            (fun β => ⟨.p rfl (by intro X; exact op_move rfl),
            ⟨.p rfl (by intro X; exact op_loadA rfl tA52xg (Ent.lab (l := 11) rfl (says_cel 0)) (Nat.le_of_ble_eq_true rfl)),
            ⟨.p rfl (by intro X; exact op_move rfl),
            ⟨.p rfl (by intro X; rintro _ _ ⟨rfl, rfl⟩; exact op_val (v' := .bool true) (by rw [decide_eq_true h27]) (op_eql rfl rfl)),
            ⟨.p rfl (by intro X; rintro _ _ ⟨rfl, rfl⟩; exact op_move rfl),
            ⟨.u rfl rfl rfl (by rintro _ _ ⟨rfl, rfl⟩; exact congrArg (offB false) (by rfl : _ = Value.bool true)) ⟨rfl, rfl⟩ rfl rfl,
            ⟨.u rfl rfl rfl (by rintro _ _ ⟨rfl, rfl⟩; exact congrArg (offB false) (by rfl : _ = Value.bool true)) ⟨rfl, rfl⟩ rfl rfl,
            ⟨.u rfl rfl rfl (by rintro _ _ ⟨rfl, rfl⟩; exact congrArg (offB false) (by rfl : _ = Value.bool true)) ⟨rfl, rfl⟩ rfl rfl,
            ⟨.u rfl rfl rfl (by rintro _ _ ⟨rfl, rfl⟩; rfl) ⟨rfl, rfl⟩ rfl rfl,
            ⟨.u rfl rfl rfl (by rintro _ _ ⟨rfl, rfl⟩; rfl) ⟨rfl, rfl⟩ rfl rfl,
            ⟨.u rfl rfl rfl (by rintro _ _ ⟨rfl, rfl⟩; rfl) ⟨rfl, rfl⟩ rfl rfl,
            ⟨.u rfl rfl rfl (by rintro _ _ ⟨rfl, rfl⟩; rfl) ⟨rfl, rfl⟩ rfl rfl,
            ⟨.u rfl rfl rfl (by rintro _ _ ⟨rfl, rfl⟩; exact congrArg (offB false) (by rfl : _ = Value.bool true)) ⟨rfl, rfl⟩ rfl rfl,
            ⟨.p rfl (by intro X; rintro _ _ ⟨rfl, rfl⟩ _ _ ⟨rfl, rfl⟩; exact op_pick_t rfl rfl),
            ⟨.p rfl (by intro X; exact op_move rfl),
            ⟨.p rfl (by intro X; rintro _ _ ⟨rfl, rfl⟩; exact op_eql rfl rfl),
            ⟨.p rfl (by intro X; rintro _ _ ⟨rfl, rfl⟩; exact op_assign rfl),
            ⟨.p rfl (by intro X; rintro _ _ ⟨rfl, rfl⟩; exact op_store rfl rfl tZ52xg (by rfl) (by rfl) (by exact Nat.le_of_ble_eq_true rfl)) (hu := by exact .inr fun _ _ h => h.1),
            ⟨.p rfl (by intro X; rintro _ _ ⟨rfl, rfl⟩; exact op_assign rfl),
            trivial⟩⟩⟩⟩⟩⟩⟩⟩⟩⟩⟩⟩⟩⟩⟩⟩⟩⟩⟩)
            (fun β β' => ⟨fun _ => by rfl, ⟨fun _ => by rfl, ⟨fun _ => by rfl, ⟨fun _ => by rfl, ⟨fun _ => by rfl, ⟨fun _ => by rfl, ⟨fun _ => by rfl, ⟨fun _ => by rfl, ⟨fun _ => by rfl, ⟨fun _ => by rfl, ⟨fun _ => by rfl, ⟨fun _ => by rfl, ⟨fun _ => by rfl, ⟨fun _ => by rfl, ⟨fun _ => by rfl, ⟨fun _ => by rfl, ⟨fun _ => by rfl, ⟨fun _ => by rfl, ⟨fun _ => by rfl, trivial⟩⟩⟩⟩⟩⟩⟩⟩⟩⟩⟩⟩⟩⟩⟩⟩⟩⟩⟩) ?_
        intro β
        rintro _ _ ⟨rfl, rfl⟩ _ _ ⟨rfl, rfl⟩ _ _ ⟨rfl, rfl⟩ _ _ ⟨rfl, rfl⟩ _ _ ⟨rfl, rfl⟩ _ _ ⟨rfl, rfl⟩ _ _ ⟨rfl, rfl⟩ _ _ ⟨rfl, rfl⟩ _ _ ⟨rfl, rfl⟩ _ _ ⟨rfl, rfl⟩ _ _ ⟨rfl, rfl⟩ _ _ ⟨rfl, rfl⟩ _ _ ⟨rfl, rfl⟩ _ _ ⟨rfl, rfl⟩ _ _ ⟨rfl, rfl⟩ _ _ ⟨rfl, rfl⟩ _ _ ⟨rfl, rfl⟩ _ _ ⟨rfl, rfl⟩ _ _ ⟨rfl, rfl⟩
        refine wl_norm (e' := [(10, _), (11, _), (12, _), (83, _)]) (.cons rfl (.cons rfl (.cons rfl (.cons rfl (.nil _))))) (by dsimp only [cond_false, cond_true, List.nil_append, List.cons_append]) ?_
        refine za rfl (wl_nil (st_tn (w_ret (st_br (st_tr (st_ret (vs := [_, _, _, _]) [601, 611, 605, 606] Try.results27 ⟨rfl, ⟨⟨_, rfl, Ent.mono (Ent.lab (l := 11) rfl (says_cel 0)) (fun _ h => run_load_agg tA52xg h (Nat.le_of_ble_eq_true rfl))⟩, ⟨rfl, ⟨rfl, trivial⟩⟩⟩⟩ rfl ?_))))))
        refine ⟨[(601, _), (611, _), (605, _), (606, _)], rfl, ?_⟩
        exact ⟨_, _, _, List.subset_cons_self _ _, List.subset_cons_self _ _, ⟨_, _, _, _, _, hm2⟩, rfl, rfl⟩
      · -- h27-
        obtain ⟨he0, hnl⟩ : e = 0 ∧ n = lastN (commitL L) := he.resolve_left h27
        have hln : (n : Int) = L.first + ((allR L.segs).length + L.pend.length) - 1 := by rw [hnl]; unfold lastN; rw [hfc, hacl]; omega
        refine w_drawW (fun β => [⟨68, [], [], [], noW (_), false, [], []⟩, ⟨69, [], [], [], noW (_), false, [17], []⟩, ⟨70, [], [], [], noW (_), false, [], []⟩, ⟨71, [2], [], [], noW (_), false, [], []⟩, ⟨72, [3], [], [], noW (_), false, [], []⟩, ⟨73, [], [], [], noW (_), false, [], []⟩, ⟨74, [5], [], [], noW (_), false, [], []⟩, ⟨75, [6], [], [], noW (_), false, [], []⟩, ⟨76, [], [], [], noW (_), false, [], []⟩, ⟨77, [], [], [], noW (_), false, [17], []⟩, ⟨78, [9], [], [], noW (_), false, [], []⟩, ⟨79, [8, 10], [], [], noW (_), false, [], []⟩, ⟨80, [7, 11], [], [], noW (_), false, [], []⟩, ⟨81, [4, 12], [], [], noW (_), false, [], []⟩, ⟨82, [], [], [], noW (_), false, [], []⟩, ⟨83, [14], [], [], noW (_), false, [], []⟩, ⟨10, [0], [], [], noW (_), false, [], []⟩, ⟨149, [1], [], [(11, _)], noW (_), false, [], []⟩, ⟨12, [13], [], [], noW (_), false, [], []⟩]) [11] [1, 11, 17, 16] [⟨68, [], [], false, [], []⟩, ⟨69, [], [], false, [17], []⟩, ⟨70, [], [], false, [], []⟩, ⟨71, [2], [], false, [], []⟩, ⟨72, [3], [], false, [], []⟩, ⟨73, [], [], false, [], []⟩, ⟨74, [5], [], false, [], []⟩, ⟨75, [6], [], false, [], []⟩, ⟨76, [], [], false, [], []⟩, ⟨77, [], [], false, [17], []⟩, ⟨78, [9], [], false, [], []⟩, ⟨79, [8, 10], [], false, [], []⟩, ⟨80, [7, 11], [], false, [], []⟩, ⟨81, [4, 12], [], false, [], []⟩, ⟨82, [], [], false, [], []⟩, ⟨83, [14], [], false, [], []⟩, ⟨10, [0], [], false, [], []⟩, ⟨149, [1], [], false, [], []⟩, ⟨12, [13], [], false, [], []⟩] [[], [], [], [], [], [], [], [], [], [], [], [], [], [], [], [], [], [], []] [[], [], [], [], [], [], [], [], [], [], [], [], [], [], [], [], [], [(11, _)], []] tMixxg (fun _ => by rfl) (fun _ => by rfl) (by kernel_rfl) (by kernel_rfl) (by rfl) (by rfl)
            (fun β => ⟨.p rfl (by intro X; exact op_move rfl),
            ⟨.p rfl (by intro X; exact op_loadA rfl tA52xg (Ent.lab (l := 11) rfl (says_cel 0)) (Nat.le_of_ble_eq_true rfl)),
            ⟨.p rfl (by intro X; exact op_move rfl),
            ⟨.p rfl (by intro X; rintro _ _ ⟨rfl, rfl⟩; exact op_val (v' := .bool false) (by rw [decide_eq_false h27]) (op_eql rfl rfl)),
            ⟨.p rfl (by intro X; rintro _ _ ⟨rfl, rfl⟩; exact op_move rfl),
            ⟨.w rfl rfl rfl (by rintro _ _ ⟨rfl, rfl⟩; rfl) (by intro X; exact op_move rfl),
            ⟨.w rfl rfl rfl (by rintro _ _ ⟨rfl, rfl⟩; rfl) (by intro X; rintro _ _ ⟨rfl, rfl⟩; exact op_val (v' := .bool true) (by rw [decide_eq_true he0]) (op_eql rfl rfl)),
            ⟨.w rfl rfl rfl (by rintro _ _ ⟨rfl, rfl⟩; rfl) (by intro X; rintro _ _ ⟨rfl, rfl⟩; exact op_move rfl),
            ⟨.w rfl rfl rfl (by rintro _ _ ⟨rfl, rfl⟩; rfl) (by intro X; exact op_move rfl),
            ⟨.w rfl rfl rfl (by rintro _ _ ⟨rfl, rfl⟩; rfl) (by intro X; exact op_loadA rfl tA52xg (Ent.lab (l := 11) rfl (says_cel 0)) (Nat.le_of_ble_eq_true rfl)),
            ⟨.w rfl rfl rfl (by rintro _ _ ⟨rfl, rfl⟩; rfl) (by intro X; rintro _ _ ⟨rfl, rfl⟩; exact op_fn Try.func29 rfl rfl rfl (mlast_any (hm2.slx rfl (by omega)) (hm2.slr rfl (by omega)) (by omega) (by omega))),
            ⟨.w rfl rfl rfl (by rintro _ _ ⟨rfl, rfl⟩; rfl) (by intro X; rintro _ _ ⟨rfl, rfl⟩ _ _ ⟨rfl, rfl⟩; exact op_val (v' := .bool true) (by rw [decide_eq_true (by omega)]) (op_eql rfl rfl)),
            ⟨.w rfl rfl rfl (by rintro _ _ ⟨rfl, rfl⟩; rfl) (by intro X; rintro _ _ ⟨rfl, rfl⟩ _ _ ⟨rfl, rfl⟩; exact op_pick_t rfl rfl),
            ⟨.p rfl (by intro X; rintro _ _ ⟨rfl, rfl⟩ _ _ ⟨rfl, rfl⟩; exact op_pick_f rfl rfl),
            ⟨.p rfl (by intro X; exact op_move rfl),
            ⟨.p rfl (by intro X; rintro _ _ ⟨rfl, rfl⟩; exact op_eql rfl rfl),
            ⟨.p rfl (by intro X; rintro _ _ ⟨rfl, rfl⟩; exact op_assign rfl),
            ⟨.p rfl (by intro X; rintro _ _ ⟨rfl, rfl⟩; exact op_store rfl rfl tZ52xg (by rfl) (by rfl) (by exact Nat.le_of_ble_eq_true rfl)) (hu := by exact .inr fun _ _ h => h.1),
            ⟨.p rfl (by intro X; rintro _ _ ⟨rfl, rfl⟩; exact op_assign rfl),
            trivial⟩⟩⟩⟩⟩⟩⟩⟩⟩⟩⟩⟩⟩⟩⟩⟩⟩⟩⟩)
            (fun β β' => ⟨fun _ => by rfl, ⟨fun _ => by rfl, ⟨fun _ => by rfl, ⟨fun _ => by rfl, ⟨fun _ => by rfl, ⟨fun _ => by rfl, ⟨fun _ => by rfl, ⟨fun _ => by rfl, ⟨fun _ => by rfl, ⟨fun _ => by rfl, ⟨fun _ => by rfl, ⟨fun _ => by rfl, ⟨fun _ => by rfl, ⟨fun _ => by rfl, ⟨fun _ => by rfl, ⟨fun _ => by rfl, ⟨fun _ => by rfl, ⟨fun _ => by rfl, ⟨fun _ => by rfl, trivial⟩⟩⟩⟩⟩⟩⟩⟩⟩⟩⟩⟩⟩⟩⟩⟩⟩⟩⟩) ?_
        intro β
        rintro _ _ ⟨rfl, rfl⟩ _ _ ⟨rfl, rfl⟩ _ _ ⟨rfl, rfl⟩ _ _ ⟨rfl, rfl⟩ _ _ ⟨rfl, rfl⟩ _ _ ⟨rfl, rfl⟩ _ _ ⟨rfl, rfl⟩ _ _ ⟨rfl, rfl⟩ _ _ ⟨rfl, rfl⟩ _ _ ⟨rfl, rfl⟩ _ _ ⟨rfl, rfl⟩ _ _ ⟨rfl, rfl⟩ _ _ ⟨rfl, rfl⟩ _ _ ⟨rfl, rfl⟩ _ _ ⟨rfl, rfl⟩ _ _ ⟨rfl, rfl⟩ _ _ ⟨rfl, rfl⟩ _ _ ⟨rfl, rfl⟩ _ _ ⟨rfl, rfl⟩
        refine wl_norm (e' := [(10, _), (11, _), (12, _), (83, _)]) (.cons rfl (.cons rfl (.cons rfl (.cons rfl (.nil _))))) (by dsimp only [cond_false, cond_true, List.nil_append, List.cons_append]) ?_
        refine za rfl (wl_nil (st_tn (w_ret (st_br (st_tr (st_ret (vs := [_, _, _, _]) [601, 611, 605, 606] Try.results27 ⟨rfl, ⟨⟨_, rfl, Ent.mono (Ent.lab (l := 11) rfl (says_cel 0)) (fun _ h => run_load_agg tA52xg h (Nat.le_of_ble_eq_true rfl))⟩, ⟨rfl, ⟨rfl, trivial⟩⟩⟩⟩ rfl ?_))))))
        refine ⟨[(601, _), (611, _), (605, _), (606, _)], rfl, ?_⟩
        exact ⟨_, _, _, List.subset_cons_self _ _, List.subset_cons_self _ _, ⟨_, _, _, _, _, hm2⟩, rfl, rfl⟩
  · -- h3-
    refine w_region (zd rfl (op_val (v' := .bool false) (by rw [decide_eq_false (by omega)]) (op_eql rfl rfl)) ?_)
    refine za rfl (wl_nil (st_tn (w_cond_f (rfl) ?_)))
    refine w_region (zd rfl (op_val (v' := .bool true) (by rw [decide_eq_true (by omega)]) (op_eql rfl rfl)) ?_)
    refine za rfl (wl_nil (st_tn (w_cond_t (rfl) ?_)))
    refine w_seq ?_
    by_cases hpd : L.pend.length = 0
    · -- hpd+
      have hp0 : L.pend = [] := List.eq_nil_of_length_eq_zero hpd
      have hcl := commitL_nil hp0
      refine w_region (zd rfl (op_loadA rfl tA52xg (Ent.lab (l := 7) rfl (says_cel 0)) (Nat.le_of_ble_eq_true rfl)) (zd rfl (op_fn Try.func56 rfl rfl rfl (mcommit_nil (hm.slp rfl (by omega)) hpd)) ?_))
      refine wl_op0 [11] rfl rfl rfl (op_store rfl rfl tZ52xg (by rfl) (by rfl) (by exact Nat.le_of_ble_eq_true rfl)) ?_
      rintro _ _ ⟨rfl, rfl⟩
      refine wl_nil (st_tn (w_seq (w_region (zm rfl (wl_op [601, 611] rfl rfl rfl rfl (op_fn Try.func15 rfl rfl rfl (commit_to 601 611 hc hS.ok hg hnm hnx)) ?_)))))
      rintro _ _ ⟨rfl, rfl⟩
      refine zm rfl (zd rfl (op_extract rfl rfl) (zd rfl (op_extract rfl rfl) (za rfl (za rfl (wl_nil (st_tn (w_seq ?_)))))))
      by_cases h27 : e = 27
      · -- h27+
        refine w_drawW (fun β => [⟨68, [], [], [], noW (_), false, [], []⟩, ⟨69, [], [], [], noW (_), false, [17], []⟩, ⟨70, [], [], [], noW (_), false, [], []⟩, ⟨71, [2], [], [], noW (_), false, [], []⟩, ⟨72, [3], [], [], noW (_), false, [], []⟩, ⟨73, [], [], [], noW (Det undef), false, [], []⟩, ⟨74, [], [], [], noW (Det undef), false, [], []⟩, ⟨75, [], [], [], noW (Det undef), false, [], []⟩, ⟨76, [], [], [], noW (Det undef), false, [], []⟩, ⟨77, [], [], [], noW (Det undef), false, [], []⟩, ⟨78, [], [], [], noW (Det undef), false, [], []⟩, ⟨79, [], [], [], noW (Det undef), false, [], []⟩, ⟨80, [], [], [], noW (Det undef), false, [], []⟩, ⟨81, [4, 12], [], [], noW (_), false, [], []⟩, ⟨82, [], [], [], noW (_), false, [], []⟩, ⟨83, [14], [], [], noW (_), false, [], []⟩, ⟨10, [0], [], [], noW (_), false, [], []⟩, ⟨149, [1], [], [(11, _)], noW (_), false, [], []⟩, ⟨12, [13], [], [], noW (_), false, [], []⟩]) [11] [1, 11, 17, 16] [⟨68, [], [], false, [], []⟩, ⟨69, [], [], false, [17], []⟩, ⟨70, [], [], false, [], []⟩, ⟨71, [2], [], false, [], []⟩, ⟨72, [3], [], false, [], []⟩, ⟨73, [], [], false, [], []⟩, ⟨74, [], [], false, [], []⟩, ⟨75, [], [], false, [], []⟩, ⟨76, [], [], false, [], []⟩, ⟨77, [], [], false, [], []⟩, ⟨78, [], [], false, [], []⟩, ⟨79, [], [], false, [], []⟩, ⟨80, [], [], false, [], []⟩, ⟨81, [4, 12], [], false, [], []⟩, ⟨82, [], [], false, [], []⟩, ⟨83, [14], [], false, [], []⟩, ⟨10, [0], [], false, [], []⟩, ⟨149, [1], [], false, [], []⟩, ⟨12, [13], [], false, [], []⟩] [[], [], [], [], [], [], [], [], [], [], [], [], [], [], [], [], [], [], []] [[], [], [], [], [], [], [], [], [], [], [], [], [], [], [], [], [], [(11, _)], []] tMixxg (fun _ => by rfl) (fun _ => by rfl) (by kernel_rfl) (by kernel_rfl) (by rfl) (by rfl)
            (fun β => ⟨.p rfl (by intro X; exact op_move rfl),
            ⟨.p rfl (by intro X; exact op_loadA rfl tA52xg (Ent.lab (l := 11) rfl (says_cel 0)) (Nat.le_of_ble_eq_true rfl)),
            ⟨.p rfl (by intro X; exact op_move rfl),
            ⟨.p rfl (by intro X; rintro _ _ ⟨rfl, rfl⟩; exact op_val (v' := .bool true) (by rw [decide_eq_true h27]) (op_eql rfl rfl)),
            ⟨.p rfl (by intro X; rintro _ _ ⟨rfl, rfl⟩; exact op_move rfl),
            ⟨.u rfl rfl rfl (by rintro _ _ ⟨rfl, rfl⟩; exact congrArg (offB false) (by rfl : _ = Value.bool true)) ⟨rfl, rfl⟩ rfl rfl,
            ⟨.u rfl rfl rfl (by rintro _ _ ⟨rfl, rfl⟩; exact congrArg (offB false) (by rfl : _ = Value.bool true)) ⟨rfl, rfl⟩ rfl rfl,
            ⟨.u rfl rfl rfl (by rintro _ _ ⟨rfl, rfl⟩; exact congrArg (offB false) (by rfl : _ = Value.bool true)) ⟨rfl, rfl⟩ rfl rfl,
            ⟨.u rfl rfl rfl (by rintro _ _ ⟨rfl, rfl⟩; rfl) ⟨rfl, rfl⟩ rfl rfl,
            ⟨.u rfl rfl rfl (by rintro _ _ ⟨rfl, rfl⟩; rfl) ⟨rfl, rfl⟩ rfl rfl,
            ⟨.u rfl rfl rfl (by rintro _ _ ⟨rfl, rfl⟩; rfl) ⟨rfl, rfl⟩ rfl rfl,
            ⟨.u rfl rfl rfl (by rintro _ _ ⟨rfl, rfl⟩; rfl) ⟨rfl, rfl⟩ rfl rfl,
            ⟨.u rfl rfl rfl (by rintro _ _ ⟨rfl, rfl⟩; exact congrArg (offB false) (by rfl : _ = Value.bool true)) ⟨rfl, rfl⟩ rfl rfl,
            ⟨.p rfl (by intro X; rintro _ _ ⟨rfl, rfl⟩ _ _ ⟨rfl, rfl⟩; exact op_pick_t rfl rfl),
            ⟨.p rfl (by intro X; exact op_move rfl),
            ⟨.p rfl (by intro X; rintro _ _ ⟨rfl, rfl⟩; exact op_eql rfl rfl),
            ⟨.p rfl (by intro X; rintro _ _ ⟨rfl, rfl⟩; exact op_assign rfl),
            ⟨.p rfl (by intro X; rintro _ _ ⟨rfl, rfl⟩; exact op_store rfl rfl tZ52xg (by rfl) (by rfl) (by exact Nat.le_of_ble_eq_true rfl)) (hu := by exact .inr fun _ _ h => h.1),
            ⟨.p rfl (by intro X; rintro _ _ ⟨rfl, rfl⟩; exact op_assign rfl),
            trivial⟩⟩⟩⟩⟩⟩⟩⟩⟩⟩⟩⟩⟩⟩⟩⟩⟩⟩⟩)
            (fun β β' => ⟨fun _ => by rfl, ⟨fun _ => by rfl, ⟨fun _ => by rfl, ⟨fun _ => by rfl, ⟨fun _ => by rfl, ⟨fun _ => by rfl, ⟨fun _ => by rfl, ⟨fun _ => by rfl, ⟨fun _ => by rfl, ⟨fun _ => by rfl, ⟨fun _ => by rfl, ⟨fun _ => by rfl, ⟨fun _ => by rfl, ⟨fun _ => by rfl, ⟨fun _ => by rfl, ⟨fun _ => by rfl, ⟨fun _ => by rfl, ⟨fun _ => by rfl, ⟨fun _ => by rfl, trivial⟩⟩⟩⟩⟩⟩⟩⟩⟩⟩⟩⟩⟩⟩⟩⟩⟩⟩⟩) ?_
        intro β
        rintro _ _ ⟨rfl, rfl⟩ _ _ ⟨rfl, rfl⟩ _ _ ⟨rfl, rfl⟩ _ _ ⟨rfl, rfl⟩ _ _ ⟨rfl, rfl⟩ _ _ ⟨rfl, rfl⟩ _ _ ⟨rfl, rfl⟩ _ _ ⟨rfl, rfl⟩ _ _ ⟨rfl, rfl⟩ _ _ ⟨rfl, rfl⟩ _ _ ⟨rfl, rfl⟩ _ _ ⟨rfl, rfl⟩ _ _ ⟨rfl, rfl⟩ _ _ ⟨rfl, rfl⟩ _ _ ⟨rfl, rfl⟩ _ _ ⟨rfl, rfl⟩ _ _ ⟨rfl, rfl⟩ _ _ ⟨rfl, rfl⟩ _ _ ⟨rfl, rfl⟩
        refine wl_norm (e' := [(10, _), (11, _), (12, _), (83, _)]) (.cons rfl (.cons rfl (.cons rfl (.cons rfl (.nil _))))) (by dsimp only [cond_false, cond_true, List.nil_append, List.cons_append]) ?_
        refine za rfl (wl_nil (st_tn (w_ret (st_br (st_tr (st_ret (vs := [_, _, _, _]) [601, 611, 605, 606] Try.results27 ⟨rfl, ⟨⟨_, rfl, Ent.mono (Ent.lab (l := 11) rfl (says_cel 0)) (fun _ h => run_load_agg tA52xg h (Nat.le_of_ble_eq_true rfl))⟩, ⟨rfl, ⟨rfl, trivial⟩⟩⟩⟩ rfl ?_))))))
        refine ⟨[(601, _), (611, _), (605, _), (606, _)], rfl, ?_⟩
        rw [hcl]; exact ⟨_, P1, P2, fun _ h => h, fun _ h => h, ⟨a, c, p, cp, Y, hm⟩, rfl, rfl⟩
      · -- h27-
        obtain ⟨he0, hnl⟩ : e = 0 ∧ n = lastN (commitL L) := he.resolve_left h27
        have hln : (n : Int) = L.first + ((allR L.segs).length + L.pend.length) - 1 := by rw [hnl]; unfold lastN; rw [hfc, hacl]; omega
        refine w_drawW (fun β => [⟨68, [], [], [], noW (_), false, [], []⟩, ⟨69, [], [], [], noW (_), false, [17], []⟩, ⟨70, [], [], [], noW (_), false, [], []⟩, ⟨71, [2], [], [], noW (_), false, [], []⟩, ⟨72, [3], [], [], noW (_), false, [], []⟩, ⟨73, [], [], [], noW (_), false, [], []⟩, ⟨74, [5], [], [], noW (_), false, [], []⟩, ⟨75, [6], [], [], noW (_), false, [], []⟩, ⟨76, [], [], [], noW (_), false, [], []⟩, ⟨77, [], [], [], noW (_), false, [17], []⟩, ⟨78, [9], [], [], noW (_), false, [], []⟩, ⟨79, [8, 10], [], [], noW (_), false, [], []⟩, ⟨80, [7, 11], [], [], noW (_), false, [], []⟩, ⟨81, [4, 12], [], [], noW (_), false, [], []⟩, ⟨82, [], [], [], noW (_), false, [], []⟩, ⟨83, [14], [], [], noW (_), false, [], []⟩, ⟨10, [0], [], [], noW (_), false, [], []⟩, ⟨149, [1], [], [(11, _)], noW (_), false, [], []⟩, ⟨12, [13], [], [], noW (_), false, [], []⟩]) [11] [1, 11, 17, 16] [⟨68, [], [], false, [], []⟩, ⟨69, [], [], false, [17], []⟩, ⟨70, [], [], false, [], []⟩, ⟨71, [2], [], false, [], []⟩, ⟨72, [3], [], false, [], []⟩, ⟨73, [], [], false, [], []⟩, ⟨74, [5], [], false, [], []⟩, ⟨75, [6], [], false, [], []⟩, ⟨76, [], [], false, [], []⟩, ⟨77, [], [], false, [17], []⟩, ⟨78, [9], [], false, [], []⟩, ⟨79, [8, 10], [], false, [], []⟩, ⟨80, [7, 11], [], false, [], []⟩, ⟨81, [4, 12], [], false, [], []⟩, ⟨82, [], [], false, [], []⟩, ⟨83, [14], [], false, [], []⟩, ⟨10, [0], [], false, [], []⟩, ⟨149, [1], [], false, [], []⟩, ⟨12, [13], [], false, [], []⟩] [[], [], [], [], [], [], [], [], [], [], [], [], [], [], [], [], [], [], []] [[], [], [], [], [], [], [], [], [], [], [], [], [], [], [], [], [], [(11, _)], []] tMixxg (fun _ => by rfl) (fun _ => by rfl) (by kernel_rfl) (by kernel_rfl) (by rfl) (by rfl)
            (fun β => ⟨.p rfl (by intro X; exact op_move rfl),
            ⟨.p rfl (by intro X; exact op_loadA rfl tA52xg (Ent.lab (l := 11) rfl (says_cel 0)) (Nat.le_of_ble_eq_true rfl)),
            ⟨.p rfl (by intro X; exact op_move rfl),
            ⟨.p rfl (by intro X; rintro _ _ ⟨rfl, rfl⟩; exact op_val (v' := .bool false) (by rw [decide_eq_false h27]) (op_eql rfl rfl)),
            ⟨.p rfl (by intro X; rintro _ _ ⟨rfl, rfl⟩; exact op_move rfl),
            ⟨.w rfl rfl rfl (by rintro _ _ ⟨rfl, rfl⟩; rfl) (by intro X; exact op_move rfl),
            ⟨.w rfl rfl rfl (by rintro _ _ ⟨rfl, rfl⟩; rfl) (by intro X; rintro _ _ ⟨rfl, rfl⟩; exact op_val (v' := .bool true) (by rw [decide_eq_true he0]) (op_eql rfl rfl)),
            ⟨.w rfl rfl rfl (by rintro _ _ ⟨rfl, rfl⟩; rfl) (by intro X; rintro _ _ ⟨rfl, rfl⟩; exact op_move rfl),
            ⟨.w rfl rfl rfl (by rintro _ _ ⟨rfl, rfl⟩; rfl) (by intro X; exact op_move rfl),
            ⟨.w rfl rfl rfl (by rintro _ _ ⟨rfl, rfl⟩; rfl) (by intro X; exact op_loadA rfl tA52xg (Ent.lab (l := 11) rfl (says_cel 0)) (Nat.le_of_ble_eq_true rfl)),
            ⟨.w rfl rfl rfl (by rintro _ _ ⟨rfl, rfl⟩; rfl) (by intro X; rintro _ _ ⟨rfl, rfl⟩; exact op_fn Try.func29 rfl rfl rfl (mlast_any (hm.slx rfl (by omega)) (hm.slr rfl (by omega)) (by omega) (by omega))),
            ⟨.w rfl rfl rfl (by rintro _ _ ⟨rfl, rfl⟩; rfl) (by intro X; rintro _ _ ⟨rfl, rfl⟩ _ _ ⟨rfl, rfl⟩; exact op_val (v' := .bool true) (by rw [decide_eq_true (by omega)]) (op_eql rfl rfl)),
            ⟨.w rfl rfl rfl (by rintro _ _ ⟨rfl, rfl⟩; rfl) (by intro X; rintro _ _ ⟨rfl, rfl⟩ _ _ ⟨rfl, rfl⟩; exact op_pick_t rfl rfl),
            ⟨.p rfl (by intro X; rintro _ _ ⟨rfl, rfl⟩ _ _ ⟨rfl, rfl⟩; exact op_pick_f rfl rfl),
            ⟨.p rfl (by intro X; exact op_move rfl),
            ⟨.p rfl (by intro X; rintro _ _ ⟨rfl, rfl⟩; exact op_eql rfl rfl),
            ⟨.p rfl (by intro X; rintro _ _ ⟨rfl, rfl⟩; exact op_assign rfl),
            ⟨.p rfl (by intro X; rintro _ _ ⟨rfl, rfl⟩; exact op_store rfl rfl tZ52xg (by rfl) (by rfl) (by exact Nat.le_of_ble_eq_true rfl)) (hu := by exact .inr fun _ _ h => h.1),
            ⟨.p rfl (by intro X; rintro _ _ ⟨rfl, rfl⟩; exact op_assign rfl),
            trivial⟩⟩⟩⟩⟩⟩⟩⟩⟩⟩⟩⟩⟩⟩⟩⟩⟩⟩⟩)
            (fun β β' => ⟨fun _ => by rfl, ⟨fun _ => by rfl, ⟨fun _ => by rfl, ⟨fun _ => by rfl, ⟨fun _ => by rfl, ⟨fun _ => by rfl, ⟨fun _ => by rfl, ⟨fun _ => by rfl, ⟨fun _ => by rfl, ⟨fun _ => by rfl, ⟨fun _ => by rfl, ⟨fun _ => by rfl, ⟨fun _ => by rfl, ⟨fun _ => by rfl, ⟨fun _ => by rfl, ⟨fun _ => by rfl, ⟨fun _ => by rfl, ⟨fun _ => by rfl, ⟨fun _ => by rfl, trivial⟩⟩⟩⟩⟩⟩⟩⟩⟩⟩⟩⟩⟩⟩⟩⟩⟩⟩⟩) ?_
        intro β
        rintro _ _ ⟨rfl, rfl⟩ _ _ ⟨rfl, rfl⟩ _ _ ⟨rfl, rfl⟩ _ _ ⟨rfl, rfl⟩ _ _ ⟨rfl, rfl⟩ _ _ ⟨rfl, rfl⟩ _ _ ⟨rfl, rfl⟩ _ _ ⟨rfl, rfl⟩ _ _ ⟨rfl, rfl⟩ _ _ ⟨rfl, rfl⟩ _ _ ⟨rfl, rfl⟩ _ _ ⟨rfl, rfl⟩ _ _ ⟨rfl, rfl⟩ _ _ ⟨rfl, rfl⟩ _ _ ⟨rfl, rfl⟩ _ _ ⟨rfl, rfl⟩ _ _ ⟨rfl, rfl⟩ _ _ ⟨rfl, rfl⟩ _ _ ⟨rfl, rfl⟩
        refine wl_norm (e' := [(10, _), (11, _), (12, _), (83, _)]) (.cons rfl (.cons rfl (.cons rfl (.cons rfl (.nil _))))) (by dsimp only [cond_false, cond_true, List.nil_append, List.cons_append]) ?_
        refine za rfl (wl_nil (st_tn (w_ret (st_br (st_tr (st_ret (vs := [_, _, _, _]) [601, 611, 605, 606] Try.results27 ⟨rfl, ⟨⟨_, rfl, Ent.mono (Ent.lab (l := 11) rfl (says_cel 0)) (fun _ h => run_load_agg tA52xg h (Nat.le_of_ble_eq_true rfl))⟩, ⟨rfl, ⟨rfl, trivial⟩⟩⟩⟩ rfl ?_))))))
        refine ⟨[(601, _), (611, _), (605, _), (606, _)], rfl, ?_⟩
        rw [hcl]; exact ⟨_, P1, P2, fun _ h => h, fun _ h => h, ⟨a, c, p, cp, Y, hm⟩, rfl, rfl⟩
    · -- hpd-
      have hp0 : L.pend ≠ [] := fun h => hpd (by rw [h]; rfl)
      refine w_region (zd rfl (op_loadA rfl tA52xg (Ent.lab (l := 7) rfl (says_cel 0)) (Nat.le_of_ble_eq_true rfl)) (wl_op [] rfl rfl rfl rfl (op_fn Try.func56 rfl rfl rfl (mcommit_go 162 163 (hm.slx rfl (by omega)) (hm.slr rfl (by omega)) (hm.slp rfl (by omega)) (by omega) (by omega) (by omega) (fun y hy => by obtain ⟨z, hz, e1, e2, e3⟩ := hm.rel.mem hy; have h4 := hS.ok.seg.num z hz; have h5 := gs_le (hS.ok.seg.grp z hz); have h6 := recs_le hz; rw [e1, e2, e3]; omega))) ?_))
      rintro _ _ ⟨a62, c62, q62, cq62, rfl, rfl⟩
      refine wl_op0 [11] rfl rfl rfl (op_store rfl rfl tZ52xg (by rfl) (by rfl) (by exact Nat.le_of_ble_eq_true rfl)) ?_
      rintro _ _ ⟨rfl, rfl⟩
      refine wl_nil (st_tn (w_seq (w_star 163 605 605 rfl ?_)))
      refine w_wk 605 (poolS ((.slice q62 (recsN Y L.fresh L.pend).length cq62, recsN Y L.fresh L.pend) :: P1)) rfl (fun _ h => h) ?_
      refine w_star 162 606 606 rfl ?_
      refine w_wk 606 (poolX ((.slice a62 (noteX Y L.fresh L.pend q62 cq62).length c62, noteX Y L.fresh L.pend q62 cq62) :: P2)) rfl (fun _ h => h) ?_
      have hm2 := ms_commit hm hp0 a62 q62 c62 cq62
      have hYl2 := hm2.rel.len
      have hseg2 := segs_le_all (segs := (commitL L).segs) (by rw [lastN_commit hp0]; exact (oks_note hS.ok.seg rfl ⟨hp0, hS.ok.pl, hS.ok.pc⟩ hnx).grp)
      have hrec2 := congrArg List.length hm2.rel.recs
      refine w_region (zm rfl (wl_op [601, 611] rfl rfl rfl rfl (op_fn Try.func15 rfl rfl rfl (commit_to 601 611 hc hS.ok hg hnm hnx)) ?_))
      rintro _ _ ⟨rfl, rfl⟩
      refine zm rfl (zd rfl (op_extract rfl rfl) (zd rfl (op_extract rfl rfl) (za rfl (za rfl (wl_nil (st_tn (w_seq ?_)))))))
      by_cases h27 : e = 27
      · -- h27+
        refine w_drawW (fun β => [⟨68, [], [], [], noW (_), false, [], []⟩, ⟨69, [], [], [], noW (_), false, [17], []⟩, ⟨70, [], [], [], noW (_), false, [], []⟩, ⟨71, [2], [], [], noW (_), false, [], []⟩, ⟨72, [3], [], [], noW (_), false, [], []⟩, ⟨73, [], [], [], noW (Det undef), false, [], []⟩, ⟨74, [], [], [], noW (Det undef), false, [], []⟩, ⟨75, [], [], [], noW (Det undef), false, [], []⟩, ⟨76, [], [], [], noW (Det undef), false, [], []⟩, ⟨77, [], [], [], noW (Det undef), false, [], []⟩, ⟨78, [], [], [], noW (Det undef), false, [], []⟩, ⟨79, [], [], [], noW (Det undef), false, [], []⟩, ⟨80, [], [], [], noW (Det undef), false, [], []⟩, ⟨81, [4, 12], [], [], noW (_), false, [], []⟩, ⟨82, [], [], [], noW (_), false, [], []⟩, ⟨83, [14], [], [], noW (_), false, [], []⟩, ⟨10, [0], [], [], noW (_), false, [], []⟩, ⟨149, [1], [], [(11, _)], noW (_), false, [], []⟩, ⟨12, [13], [], [], noW (_), false, [], []⟩]) [11] [1, 11, 17, 16] [⟨68, [], [], false, [], []⟩, ⟨69, [], [], false, [17], []⟩, ⟨70, [], [], false, [], []⟩, ⟨71, [2], [], false, [], []⟩, ⟨72, [3], [], false, [], []⟩, ⟨73, [], [], false, [], []⟩, ⟨74, [], [], false, [], []⟩, ⟨75, [], [], false, [], []⟩, ⟨76, [], [], false, [], []⟩, ⟨77, [], [], false, [], []⟩, ⟨78, [], [], false, [], []⟩, ⟨79, [], [], false, [], []⟩, ⟨80, [], [], false, [], []⟩, ⟨81, [4, 12], [], false, [], []⟩, ⟨82, [], [], false, [], []⟩, ⟨83, [14], [], false, [], []⟩, ⟨10, [0], [], false, [], []⟩, ⟨149, [1], [], false, [], []⟩, ⟨12, [13], [], false, [], []⟩] [[], [], [], [], [], [], [], [], [], [], [], [], [], [], [], [], [], [], []] [[], [], [], [], [], [], [], [], [], [], [], [], [], [], [], [], [], [(11, _)], []] tMixxg (fun _ => by rfl) (fun _ => by rfl) (by kernel_rfl) (by kernel_rfl) (by rfl) (by rfl)
            (fun β => ⟨.p rfl (by intro X; exact op_move rfl),
            ⟨.p rfl (by intro X; exact op_loadA rfl tA52xg (Ent.lab (l := 11) rfl (says_cel 0)) (Nat.le_of_ble_eq_true rfl)),
            ⟨.p rfl (by intro X; exact op_move rfl),
            ⟨.p rfl (by intro X; rintro _ _ ⟨rfl, rfl⟩; exact op_val (v' := .bool true) (by rw [decide_eq_true h27]) (op_eql rfl rfl)),
            ⟨.p rfl (by intro X; rintro _ _ ⟨rfl, rfl⟩; exact op_move rfl),
            ⟨.u rfl rfl rfl (by rintro _ _ ⟨rfl, rfl⟩; exact congrArg (offB false) (by rfl : _ = Value.bool true)) ⟨rfl, rfl⟩ rfl rfl,
            ⟨.u rfl rfl rfl (by rintro _ _ ⟨rfl, rfl⟩; exact congrArg (offB false) (by rfl : _ = Value.bool true)) ⟨rfl, rfl⟩ rfl rfl,
            ⟨.u rfl rfl rfl (by rintro _ _ ⟨rfl, rfl⟩; exact congrArg (offB false) (by rfl : _ = Value.bool true)) ⟨rfl, rfl⟩ rfl rfl,
            ⟨.u rfl rfl rfl (by rintro _ _ ⟨rfl, rfl⟩; rfl) ⟨rfl, rfl⟩ rfl rfl,
            ⟨.u rfl rfl rfl (by rintro _ _ ⟨rfl, rfl⟩; rfl) ⟨rfl, rfl⟩ rfl rfl,
            ⟨.u rfl rfl rfl (by rintro _ _ ⟨rfl, rfl⟩; rfl) ⟨rfl, rfl⟩ rfl rfl,
            ⟨.u rfl rfl rfl (by rintro _ _ ⟨rfl, rfl⟩; rfl) ⟨rfl, rfl⟩ rfl rfl,
            ⟨.u rfl rfl rfl (by rintro _ _ ⟨rfl, rfl⟩; exact congrArg (offB false) (by rfl : _ = Value.bool true)) ⟨rfl, rfl⟩ rfl rfl,
            ⟨.p rfl (by intro X; rintro _ _ ⟨rfl, rfl⟩ _ _ ⟨rfl, rfl⟩; exact op_pick_t rfl rfl),
            ⟨.p rfl (by intro X; exact op_move rfl),
            ⟨.p rfl (by intro X; rintro _ _ ⟨rfl, rfl⟩; exact op_eql rfl rfl),
            ⟨.p rfl (by intro X; rintro _ _ ⟨rfl, rfl⟩; exact op_assign rfl),
            ⟨.p rfl (by intro X; rintro _ _ ⟨rfl, rfl⟩; exact op_store rfl rfl tZ52xg (by rfl) (by rfl) (by exact Nat.le_of_ble_eq_true rfl)) (hu := by exact .inr fun _ _ h => h.1),
            ⟨.p rfl (by intro X; rintro _ _ ⟨rfl, rfl⟩; exact op_assign rfl),
            trivial⟩⟩⟩⟩⟩⟩⟩⟩⟩⟩⟩⟩⟩⟩⟩⟩⟩⟩⟩)
            (fun β β' => ⟨fun _ => by rfl, ⟨fun _ => by rfl, ⟨fun _ => by rfl, ⟨fun _ => by rfl, ⟨fun _ => by rfl, ⟨fun _ => by rfl, ⟨fun _ => by rfl, ⟨fun _ => by rfl, ⟨fun _ => by rfl, ⟨fun _ => by rfl, ⟨fun _ => by rfl, ⟨fun _ => by rfl, ⟨fun _ => by rfl, ⟨fun _ => by rfl, ⟨fun _ => by rfl, ⟨fun _ => by rfl, ⟨fun _ => by rfl, ⟨fun _ => by rfl, ⟨fun _ => by rfl, trivial⟩⟩⟩⟩⟩⟩⟩⟩⟩⟩⟩⟩⟩⟩⟩⟩⟩⟩⟩) ?_
        intro β
        rintro _ _ ⟨rfl, rfl⟩ _ _ ⟨rfl, rfl⟩ _ _ ⟨rfl, rfl⟩ _ _ ⟨rfl, rfl⟩ _ _ ⟨rfl, rfl⟩ _ _ ⟨rfl, rfl⟩ _ _ ⟨rfl, rfl⟩ _ _ ⟨rfl, rfl⟩ _ _ ⟨rfl, rfl⟩ _ _ ⟨rfl, rfl⟩ _ _ ⟨rfl, rfl⟩ _ _ ⟨rfl, rfl⟩ _ _ ⟨rfl, rfl⟩ _ _ ⟨rfl, rfl⟩ _ _ ⟨rfl, rfl⟩ _ _ ⟨rfl, rfl⟩ _ _ ⟨rfl, rfl⟩ _ _ ⟨rfl, rfl⟩ _ _ ⟨rfl, rfl⟩
        refine wl_norm (e' := [(10, _), (11, _), (12, _), (83, _)]) (.cons rfl (.cons rfl (.cons rfl (.cons rfl (.nil _))))) (by dsimp only [cond_false, cond_true, List.nil_append, List.cons_append]) ?_
        refine za rfl (wl_nil (st_tn (w_ret (st_br (st_tr (st_ret (vs := [_, _, _, _]) [601, 611, 605, 606] Try.results27 ⟨rfl, ⟨⟨_, rfl, Ent.mono (Ent.lab (l := 11) rfl (says_cel 0)) (fun _ h => run_load_agg tA52xg h (Nat.le_of_ble_eq_true rfl))⟩, ⟨rfl, ⟨rfl, trivial⟩⟩⟩⟩ rfl ?_))))))
        refine ⟨[(601, _), (611, _), (605, _), (606, _)], rfl, ?_⟩
        exact ⟨_, _, _, List.subset_cons_self _ _, List.subset_cons_self _ _, ⟨_, _, _, _, _, hm2⟩, rfl, rfl⟩
      · -- h27-
        obtain ⟨he0, hnl⟩ : e = 0 ∧ n = lastN (commitL L) := he.resolve_left h27
        have hln : (n : Int) = L.first + ((allR L.segs).length + L.pend.length) - 1 := by rw [hnl]; unfold lastN; rw [hfc, hacl]; omega
        refine w_drawW (fun β => [⟨68, [], [], [], noW (_), false, [], []⟩, ⟨69, [], [], [], noW (_), false, [17], []⟩, ⟨70, [], [], [], noW (_), false, [], []⟩, ⟨71, [2], [], [], noW (_), false, [], []⟩, ⟨72, [3], [], [], noW (_), false, [], []⟩, ⟨73, [], [], [], noW (_), false, [], []⟩, ⟨74, [5], [], [], noW (_), false, [], []⟩, ⟨75, [6], [], [], noW (_), false, [], []⟩, ⟨76, [], [], [], noW (_), false, [], []⟩, ⟨77, [], [], [], noW (_), false, [17], []⟩, ⟨78, [9], [], [], noW (_), false, [], []⟩, ⟨79, [8, 10], [], [], noW (_), false, [], []⟩, ⟨80, [7, 11], [], [], noW (_), false, [], []⟩, ⟨81, [4, 12], [], [], noW (_), false, [], []⟩, ⟨82, [], [], [], noW (_), false, [], []⟩, ⟨83, [14], [], [], noW (_), false, [], []⟩, ⟨10, [0], [], [], noW (_), false, [], []⟩, ⟨149, [1], [], [(11, _)], noW (_), false, [], []⟩, ⟨12, [13], [], [], noW (_), false, [], []⟩]) [11] [1, 11, 17, 16] [⟨68, [], [], false, [], []⟩, ⟨69, [], [], false, [17], []⟩, ⟨70, [], [], false, [], []⟩, ⟨71, [2], [], false, [], []⟩, ⟨72, [3], [], false, [], []⟩, ⟨73, [], [], false, [], []⟩, ⟨74, [5], [], false, [], []⟩, ⟨75, [6], [], false, [], []⟩, ⟨76, [], [], false, [], []⟩, ⟨77, [], [], false, [17], []⟩, ⟨78, [9], [], false, [], []⟩, ⟨79, [8, 10], [], false, [], []⟩, ⟨80, [7, 11], [], false, [], []⟩, ⟨81, [4, 12], [], false, [], []⟩, ⟨82, [], [], false, [], []⟩, ⟨83, [14], [], false, [], []⟩, ⟨10, [0], [], false, [], []⟩, ⟨149, [1], [], false, [], []⟩, ⟨12, [13], [], false, [], []⟩] [[], [], [], [], [], [], [], [], [], [], [], [], [], [], [], [], [], [], []] [[], [], [], [], [], [], [], [], [], [], [], [], [], [], [], [], [], [(11, _)], []] tMixxg (fun _ => by rfl) (fun _ => by rfl) (by kernel_rfl) (by kernel_rfl) (by rfl) (by rfl)
            (fun β => ⟨.p rfl (by intro X; exact op_move rfl),
            ⟨.p rfl (by intro X; exact op_loadA rfl tA52xg (Ent.lab (l := 11) rfl (says_cel 0)) (Nat.le_of_ble_eq_true rfl)),
            ⟨.p rfl (by intro X; exact op_move rfl),
            ⟨.p rfl (by intro X; rintro _ _ ⟨rfl, rfl⟩; exact op_val (v' := .bool false) (by rw [decide_eq_false h27]) (op_eql rfl rfl)),
            ⟨.p rfl (by intro X; rintro _ _ ⟨rfl, rfl⟩; exact op_move rfl),
            ⟨.w rfl rfl rfl (by rintro _ _ ⟨rfl, rfl⟩; rfl) (by intro X; exact op_move rfl),
            ⟨.w rfl rfl rfl (by rintro _ _ ⟨rfl, rfl⟩; rfl) (by intro X; rintro _ _ ⟨rfl, rfl⟩; exact op_val (v' := .bool true) (by rw [decide_eq_true he0]) (op_eql rfl rfl)),
            ⟨.w rfl rfl rfl (by rintro _ _ ⟨rfl, rfl⟩; rfl) (by intro X; rintro _ _ ⟨rfl, rfl⟩; exact op_move rfl),
            ⟨.w rfl rfl rfl (by rintro _ _ ⟨rfl, rfl⟩; rfl) (by intro X; exact op_move rfl),
            ⟨.w rfl rfl rfl (by rintro _ _ ⟨rfl, rfl⟩; rfl) (by intro X; exact op_loadA rfl tA52xg (Ent.lab (l := 11) rfl (says_cel 0)) (Nat.le_of_ble_eq_true rfl)),
            ⟨.w rfl rfl rfl (by rintro _ _ ⟨rfl, rfl⟩; rfl) (by intro X; rintro _ _ ⟨rfl, rfl⟩; exact op_fn Try.func29 rfl rfl rfl (mlast_any (hm2.slx rfl (by omega)) (hm2.slr rfl (by omega)) (by omega) (by omega))),
            ⟨.w rfl rfl rfl (by rintro _ _ ⟨rfl, rfl⟩; rfl) (by intro X; rintro _ _ ⟨rfl, rfl⟩ _ _ ⟨rfl, rfl⟩; exact op_val (v' := .bool true) (by rw [decide_eq_true (by omega)]) (op_eql rfl rfl)),
            ⟨.w rfl rfl rfl (by rintro _ _ ⟨rfl, rfl⟩; rfl) (by intro X; rintro _ _ ⟨rfl, rfl⟩ _ _ ⟨rfl, rfl⟩; exact op_pick_t rfl rfl),
            ⟨.p rfl (by intro X; rintro _ _ ⟨rfl, rfl⟩ _ _ ⟨rfl, rfl⟩; exact op_pick_f rfl rfl),
            ⟨.p rfl (by intro X; exact op_move rfl),
            ⟨.p rfl (by intro X; rintro _ _ ⟨rfl, rfl⟩; exact op_eql rfl rfl),
            ⟨.p rfl (by intro X; rintro _ _ ⟨rfl, rfl⟩; exact op_assign rfl),
            ⟨.p rfl (by intro X; rintro _ _ ⟨rfl, rfl⟩; exact op_store rfl rfl tZ52xg (by rfl) (by rfl) (by exact Nat.le_of_ble_eq_true rfl)) (hu := by exact .inr fun _ _ h => h.1),
            ⟨.p rfl (by intro X; rintro _ _ ⟨rfl, rfl⟩; exact op_assign rfl),
            trivial⟩⟩⟩⟩⟩⟩⟩⟩⟩⟩⟩⟩⟩⟩⟩⟩⟩⟩⟩)
            (fun β β' => ⟨fun _ => by rfl, ⟨fun _ => by rfl, ⟨fun _ => by rfl, ⟨fun _ => by rfl, ⟨fun _ => by rfl, ⟨fun _ => by rfl, ⟨fun _ => by rfl, ⟨fun _ => by rfl, ⟨fun _ => by rfl, ⟨fun _ => by rfl, ⟨fun _ => by rfl, ⟨fun _ => by rfl, ⟨fun _ => by rfl, ⟨fun _ => by rfl, ⟨fun _ => by rfl, ⟨fun _ => by rfl, ⟨fun _ => by rfl, ⟨fun _ => by rfl, ⟨fun _ => by rfl, trivial⟩⟩⟩⟩⟩⟩⟩⟩⟩⟩⟩⟩⟩⟩⟩⟩⟩⟩⟩) ?_
        intro β
        rintro _ _ ⟨rfl, rfl⟩ _ _ ⟨rfl, rfl⟩ _ _ ⟨rfl, rfl⟩ _ _ ⟨rfl, rfl⟩ _ _ ⟨rfl, rfl⟩ _ _ ⟨rfl, rfl⟩ _ _ ⟨rfl, rfl⟩ _ _ ⟨rfl, rfl⟩ _ _ ⟨rfl, rfl⟩ _ _ ⟨rfl, rfl⟩ _ _ ⟨rfl, rfl⟩ _ _ ⟨rfl, rfl⟩ _ _ ⟨rfl, rfl⟩ _ _ ⟨rfl, rfl⟩ _ _ ⟨rfl, rfl⟩ _ _ ⟨rfl, rfl⟩ _ _ ⟨rfl, rfl⟩ _ _ ⟨rfl, rfl⟩ _ _ ⟨rfl, rfl⟩
        refine wl_norm (e' := [(10, _), (11, _), (12, _), (83, _)]) (.cons rfl (.cons rfl (.cons rfl (.cons rfl (.nil _))))) (by dsimp only [cond_false, cond_true, List.nil_append, List.cons_append]) ?_
        refine za rfl (wl_nil (st_tn (w_ret (st_br (st_tr (st_ret (vs := [_, _, _, _]) [601, 611, 605, 606] Try.results27 ⟨rfl, ⟨⟨_, rfl, Ent.mono (Ent.lab (l := 11) rfl (says_cel 0)) (fun _ h => run_load_agg tA52xg h (Nat.le_of_ble_eq_true rfl))⟩, ⟨rfl, ⟨rfl, trivial⟩⟩⟩⟩ rfl ?_))))))
        refine ⟨[(601, _), (611, _), (605, _), (606, _)], rfl, ?_⟩
        exact ⟨_, _, _, List.subset_cons_self _ _, List.subset_cons_self _ _, ⟨_, _, _, _, _, hm2⟩, rfl, rfl⟩
def trS : Nat → List Sg → Int → Nat → Nat
  | f, x :: y :: l, n, k + 1 => if (f : Int) + x.recs.length - 1 ≤ n then trS (f + x.recs.length) (y :: l) n k + 1 else 0
  | _, _, _, _ => 0
theorem trJ_S {n : Int} : ∀ {k f : Nat} {Y : List SegV} {S : List Sg}, Yrel Y S → trJ f Y n k = trS f S n k
  | k, f, [], S, h => by
    have : S = [] := List.eq_nil_of_length_eq_zero (by rw [← h.len]; rfl)
    subst this; cases k <;> rfl
  | k, f, [y], S, h => by
    match S, h.len with
    | [s], _ => cases k <;> rfl
  | 0, f, y :: z :: Y, S, h => by
    match S, h.len with
    | s :: t :: S, _ => rfl
  | k + 1, f, y :: z :: Y, S, h => by
    match S, h.len, h with
    | s :: t :: S, _, h =>
      unfold Yrel at h
      rw [List.map_cons, List.map_cons (l := t :: S)] at h
      simp only [List.cons.injEq, Prod.mk.injEq] at h
      obtain ⟨⟨_, _, e3⟩, h2⟩ := h
      rw [trJ, trS, e3, trJ_S (k := k) (f := f + s.recs.length) (Y := z :: Y) (S := t :: S) h2]
theorem yrel_drop {Y : List SegV} {S : List Sg} (h : Yrel Y S) (j : Nat) : Yrel (Y.drop j) (S.drop j) := by
  unfold Yrel at h ⊢; rw [List.map_drop, List.map_drop, h]
theorem yrel_take {Y : List SegV} {S : List Sg} (h : Yrel Y S) (j : Nat) : Yrel (Y.take j) (S.take j) := by
  unfold Yrel at h ⊢; rw [List.map_take, List.map_take, h]
def dropL (L : Lg) (j : Nat) : Lg := { L with first := L.first + (allR (L.segs.take j)).length, segs := L.segs.drop j }
set_option maxHeartbeats 4000000 in
set_option maxRecDepth 100000 in
theorem do_tru {σ : World} {F : List Res} {b d : Nat} {nm : RdM.Bs} {L L' : Lg} {s s' : DskM.St} {P1 : PS} {P2 : PX} {v : Value} {e : Int} (x : OpL) (hx : (0 ≤ x.k ∧ x.k ≤ 255) ∧ 0 ≤ x.n ∧ x.n ≤ 255) (hk : x.k % 8 = 6) (hS : Sm L) (hM : MS P1 P2 v L) (hc : truncO nm L s (L.first + x.n % 12 - 2) = (e, L', s')) (he : e = 27 ∨ e = 0) (hg : DskM.Good s) (hnm : nm.length ≤ 48) :
    FnT Try.prog σ F 27 [.pointer (some ⟨d, 0, none⟩), .pointer (some ⟨b, 0, none⟩), v, .agg (encOpL x).toArray, .string (str nm)] [(601, dkR d s), (611, lgR b d nm L), (605, poolS P1), (606, poolX P2)]
      (fun u ρ => ∃ v', MS P1 P2 v' (dropL L (trS L.first L.segs (L.first + x.n % 12 - 2) L.segs.length)) ∧ u = .tuple #[.pointer (some ⟨b, 0, none⟩), v', .bool true, .bool (decide (e = 27))] ∧ ρ = [(601, dkR d s'), (611, lgR b d nm L'), (605, poolS P1), (606, poolX P2)]) := by
  refine fn_of 132 Try.func27 rfl Try.ntmps27 rfl ?_
  obtain ⟨a, c, p, cp, Y, hm⟩ := hM
  have hval := hm.val
  subst hval
  have hb := hS.br
  have hal := hS.all
  have hfs := hS.fst
  have hsg := hS.segl
  have hYl := hm.rel.len
  have hrec := congrArg List.length hm.rel.recs
  obtain ⟨n, hn⟩ : ∃ n : Int, n = L.first + x.n % 12 - 2 := ⟨_, rfl⟩
  rw [← hn] at hc ⊢
  have htj := trJ_S (n := n) (k := Y.length) (f := L.first) hm.rel
  have htl := trJ_lt Y.length L.first Y n
  obtain ⟨j, hj⟩ : ∃ j, j = trJ L.first Y n Y.length := ⟨_, rfl⟩
  rw [← hj] at htl
  refine w_seq (w_region (wl_op [] rfl rfl rfl rfl (op_box (T := 52) (l := 7) rfl) ?_))
  rintro _ _ ⟨b7, rfl, rfl⟩
  refine wl_op [] rfl rfl rfl rfl (op_box (T := 41) (l := 8) rfl) ?_
  rintro _ _ ⟨b8, rfl, rfl⟩
  refine za rfl (wl_op [] rfl rfl rfl rfl (op_alloc (l := 11) tN52xg) ?_)
  rintro _ _ ⟨b11, rfl, rfl⟩
  refine za rfl (za rfl (wl_nil (st_tn (w_seq (w_seq (w_region (zd rfl (op_fieldAddr (off := 0) rfl tF41_0xg) (zd rfl (op_load1 rfl tO5xg (Ent.lab (l := 8) rfl (says_cel 0))) (zd rfl (op_remN rfl rfl (by omega) (by omega)) ?_)))))))))
  refine wl_nil (st_tn (w_block (w_seq (w_seq (w_region (zd rfl (op_val (v' := .bool false) (by rw [decide_eq_false (by omega)]) (op_eql rfl rfl)) ?_))))))
  refine za rfl (wl_nil (st_tn (w_cond_f (rfl) ?_)))
  refine w_seq (w_region (zd rfl (op_val (v' := .bool false) (by rw [decide_eq_false (by omega)]) (op_eql rfl rfl)) ?_))
  refine za rfl (wl_nil (st_tn (w_cond_f (rfl) ?_)))
  refine w_region (zd rfl (op_val (v' := .bool false) (by rw [decide_eq_false (by omega)]) (op_eql rfl rfl)) ?_)
  refine za rfl (wl_nil (st_tn (w_cond_f (rfl) ?_)))
  refine w_seq (w_seq (w_region (zd rfl (op_val (v' := .bool false) (by rw [decide_eq_false (by omega)]) (op_eql rfl rfl)) ?_)))
  refine za rfl (wl_nil (st_tn (w_cond_f (rfl) ?_)))
  refine w_region (zd rfl (op_val (v' := .bool false) (by rw [decide_eq_false (by omega)]) (op_eql rfl rfl)) ?_)
  refine za rfl (wl_nil (st_tn (w_cond_f (rfl) ?_)))
  refine w_seq (w_region (zd rfl (op_val (v' := .bool false) (by rw [decide_eq_false (by omega)]) (op_eql rfl rfl)) ?_))
  refine za rfl (wl_nil (st_tn (w_cond_f (rfl) ?_)))
  refine w_seq (w_region (zd rfl (op_val (v' := .bool true) (by rw [decide_eq_true (by omega)]) (op_eql rfl rfl)) ?_))
  refine za rfl (wl_nil (st_tn (w_cond_t (rfl) ?_)))
  refine w_seq (w_region (zm rfl (zd rfl (op_loadA rfl tA41xg (Ent.lab (l := 8) rfl (says_cel 0)) (Nat.le_of_ble_eq_true rfl)) (zd rfl (op_loadA rfl tA52xg (Ent.lab (l := 7) rfl (says_cel 0)) (Nat.le_of_ble_eq_true rfl)) (zd rfl (op_fn Try.func41 rfl rfl rfl (fn_imp (mnumber_any x hx.2 (by omega)) (fun u ρ hu => (by rw [← hn] at hu; exact hu : u = .int .i64 n ∧ ρ = [])))) ?_)))))
  refine wl_op [601, 611] rfl rfl rfl rfl (op_fn Try.func34 rfl rfl rfl (ltrunc_c 601 611 n (by omega) hc hS.ok hg hnm)) ?_
  rintro _ _ ⟨rfl, rfl⟩
  refine za rfl (wl_nil (st_tn (w_seq ?_)))
  by_cases h27 : e = 27
  · -- h27+
    refine w_drawW (fun β => [⟨100, [], [], [], noW (_), false, [], []⟩, ⟨101, [], [], [], noW (_), false, [], []⟩, ⟨102, [], [], [], noW (_), false, [], []⟩, ⟨103, [], [], [], noW (_), false, [], []⟩, ⟨104, [2, 3], [], [], noW (_), false, [], []⟩, ⟨105, [], [], [], noW (_), false, [], []⟩, ⟨106, [5], [], [], noW (_), false, [], []⟩, ⟨107, [6], [], [], noW (_), false, [], []⟩, ⟨108, [1, 4, 7], [], [], noW (_), false, [], []⟩, ⟨109, [], [], [], noW (_), false, [], []⟩, ⟨110, [9], [], [], noW (_), false, [], []⟩, ⟨111, [10], [], [], noW (_), false, [], []⟩, ⟨112, [], [], [], noW (_), false, [], []⟩, ⟨113, [12], [], [], noW (_), false, [], []⟩, ⟨114, [11, 13], [], [], noW (_), false, [], []⟩, ⟨115, [], [], [], noW (_), false, [], []⟩, ⟨116, [15], [], [], noW (_), false, [], []⟩, ⟨10, [0], [], [], noW (_), false, [], []⟩, ⟨150, [8], [], [(11, _)], noW (_), false, [], []⟩, ⟨12, [14], [], [], noW (_), false, [], []⟩]) [11] [1, 7, 8, 18, 11] [⟨100, [], [], false, [], []⟩, ⟨101, [], [], false, [], []⟩, ⟨102, [], [], false, [], []⟩, ⟨103, [], [], false, [], []⟩, ⟨104, [2, 3], [], false, [], []⟩, ⟨105, [], [], false, [], []⟩, ⟨106, [5], [], false, [], []⟩, ⟨107, [6], [], false, [], []⟩, ⟨108, [1, 4, 7], [], false, [], []⟩, ⟨109, [], [], false, [], []⟩, ⟨110, [9], [], false, [], []⟩, ⟨111, [10], [], false, [], []⟩, ⟨112, [], [], false, [], []⟩, ⟨113, [12], [], false, [], []⟩, ⟨114, [11, 13], [], false, [], []⟩, ⟨115, [], [], false, [], []⟩, ⟨116, [15], [], false, [], []⟩, ⟨10, [0], [], false, [], []⟩, ⟨150, [8], [], false, [], []⟩, ⟨12, [14], [], false, [], []⟩] [[], [], [], [], [], [], [], [], [], [], [], [], [], [], [], [], [], [], [], []] [[], [], [], [], [], [], [], [], [], [], [], [], [], [], [], [], [], [], [(11, _)], []] tMixxg (fun _ => by rfl) (fun _ => by rfl) (by kernel_rfl) (by kernel_rfl) (by rfl) (by rfl)
        (fun β => ⟨.p rfl (by intro X; exact op_move rfl),
        ⟨.p rfl (by intro X; exact op_loadA rfl tA52xg (Ent.lab (l := 7) rfl (says_cel 0)) (Nat.le_of_ble_eq_true rfl)),
        ⟨.p rfl (by intro X; exact op_loadA rfl tA41xg (Ent.lab (l := 8) rfl (says_cel 0)) (Nat.le_of_ble_eq_true rfl)),
        ⟨.p rfl (by intro X; exact op_loadA rfl tA52xg (Ent.lab (l := 7) rfl (says_cel 0)) (Nat.le_of_ble_eq_true rfl)),
        ⟨.p rfl (by intro X; rintro _ _ ⟨rfl, rfl⟩ _ _ ⟨rfl, rfl⟩; exact op_fn Try.func41 rfl rfl rfl (fn_imp (mnumber_any x hx.2 (by omega)) (fun u ρ hu => (by rw [← hn] at hu; exact hu : u = .int .i64 n ∧ ρ = [])))),
        ⟨.p rfl (by intro X; exact op_fieldAddr (off := 0) rfl tF52_0xg),
        ⟨.p rfl (by intro X; rintro _ _ ⟨rfl, rfl⟩; exact op_load1 rfl tO50xg (Ent.lab (l := 7) rfl (says_cel 0))),
        ⟨.p rfl (by intro X; rintro _ _ ⟨rfl, rfl⟩; exact op_lenT (enc := encSegV) (l := Y) rfl tS50xg (Sl.ent (hm.slx rfl (by omega)))),
        ⟨.p rfl (by intro X; rintro _ _ ⟨rfl, rfl⟩ _ _ ⟨rfl, rfl⟩ _ _ ⟨rfl, rfl⟩; exact op_fn Try.func40 rfl rfl rfl (fn_imp (mtrunc_any n Y.length (by omega) (by omega) (hm.slx rfl (by omega)) (hm.slr rfl (by omega)) (by omega)) (fun u ρ hu => (by rw [← hj] at hu; exact hu : u = .agg #[.slice (subJ a c j).1 (Y.drop j).length (subJ a c j).2, .int .i64 ((L.first + (recsX (Y.take j)).length : Nat) : Int), .slice p L.pend.length cp, .bool L.fresh] ∧ ρ = [])))),
        ⟨.p rfl (by intro X; exact op_move rfl),
        ⟨.p rfl (by intro X; rintro _ _ ⟨rfl, rfl⟩; exact op_val (v' := .bool false) (by rw [decide_eq_false (by omega)]) (op_eql rfl rfl)),
        ⟨.p rfl (by intro X; rintro _ _ ⟨rfl, rfl⟩; exact op_move rfl),
        ⟨.w rfl rfl rfl (by rintro _ _ ⟨rfl, rfl⟩; rfl) (by intro X; exact op_move rfl),
        ⟨.w rfl rfl rfl (by rintro _ _ ⟨rfl, rfl⟩; rfl) (by intro X; rintro _ _ ⟨rfl, rfl⟩; exact op_val (v' := .bool true) (by rw [decide_eq_true h27]) (op_eql rfl rfl)),
        ⟨.p rfl (by intro X; rintro _ _ ⟨rfl, rfl⟩ _ _ ⟨rfl, rfl⟩; exact op_pick_f rfl rfl),
        ⟨.p rfl (by intro X; exact op_move rfl),
        ⟨.p rfl (by intro X; rintro _ _ ⟨rfl, rfl⟩; exact op_eql rfl rfl),
        ⟨.p rfl (by intro X; rintro _ _ ⟨rfl, rfl⟩; exact op_assign rfl),
        ⟨.p rfl (by intro X; rintro _ _ ⟨rfl, rfl⟩; exact op_store rfl rfl tZ52xg (by rfl) (by rfl) (by exact Nat.le_of_ble_eq_true rfl)) (hu := by exact .inr fun _ _ h => h.1),
        ⟨.p rfl (by intro X; rintro _ _ ⟨rfl, rfl⟩; exact op_assign rfl),
        trivial⟩⟩⟩⟩⟩⟩⟩⟩⟩⟩⟩⟩⟩⟩⟩⟩⟩⟩⟩⟩)
        (fun β β' => ⟨fun _ => by rfl, ⟨fun _ => by rfl, ⟨fun _ => by rfl, ⟨fun _ => by rfl, ⟨fun _ => by rfl, ⟨fun _ => by rfl, ⟨fun _ => by rfl, ⟨fun _ => by rfl, ⟨fun _ => by rfl, ⟨fun _ => by rfl, ⟨fun _ => by rfl, ⟨fun _ => by rfl, ⟨fun _ => by rfl, ⟨fun _ => by rfl, ⟨fun _ => by rfl, ⟨fun _ => by rfl, ⟨fun _ => by rfl, ⟨fun _ => by rfl, ⟨fun _ => by rfl, ⟨fun _ => by rfl, trivial⟩⟩⟩⟩⟩⟩⟩⟩⟩⟩⟩⟩⟩⟩⟩⟩⟩⟩⟩⟩) ?_
    intro β
    rintro _ _ ⟨rfl, rfl⟩ _ _ ⟨rfl, rfl⟩ _ _ ⟨rfl, rfl⟩ _ _ ⟨rfl, rfl⟩ _ _ ⟨rfl, rfl⟩ _ _ ⟨rfl, rfl⟩ _ _ ⟨rfl, rfl⟩ _ _ ⟨rfl, rfl⟩ _ _ ⟨rfl, rfl⟩ _ _ ⟨rfl, rfl⟩ _ _ ⟨rfl, rfl⟩ _ _ ⟨rfl, rfl⟩ _ _ ⟨rfl, rfl⟩ _ _ ⟨rfl, rfl⟩ _ _ ⟨rfl, rfl⟩ _ _ ⟨rfl, rfl⟩ _ _ ⟨rfl, rfl⟩ _ _ ⟨rfl, rfl⟩ _ _ ⟨rfl, rfl⟩ _ _ ⟨rfl, rfl⟩
    refine wl_norm (e' := [(10, _), (11, _), (12, _), (116, _)]) (.cons rfl (.cons rfl (.cons rfl (.cons rfl (.nil _))))) (by dsimp only [cond_false, cond_true, List.nil_append, List.cons_append]) ?_
    refine za rfl (wl_nil (st_tn (w_ret (st_br (st_tr (st_ret (vs := [_, _, _, _]) [601, 611, 605, 606] Try.results27 ⟨rfl, ⟨⟨_, rfl, Ent.mono (Ent.lab (l := 11) rfl (says_cel 0)) (fun _ h => run_load_agg tA52xg h (Nat.le_of_ble_eq_true rfl))⟩, ⟨rfl, ⟨rfl, trivial⟩⟩⟩⟩ rfl ?_))))))
    refine ⟨[(601, _), (611, _), (605, _), (606, _)], rfl, ?_⟩
    refine ⟨_, ⟨(subJ a c j).1, (subJ a c j).2, p, cp, Y.drop j, ?_⟩, rfl, rfl⟩
    rw [← hYl, ← htj, ← hj]
    refine ⟨?_, .sub j hm.inx (by omega), fun x hx => hm.ins x (List.mem_of_mem_drop hx), hm.inp, yrel_drop hm.rel j⟩
    have h3 := congrArg List.length (yrel_take hm.rel j).recs
    unfold dropL
    dsimp only
    rw [← h3]; rfl
  · -- h27-
    refine w_drawW (fun β => [⟨100, [], [], [], noW (_), false, [], []⟩, ⟨101, [], [], [], noW (_), false, [], []⟩, ⟨102, [], [], [], noW (_), false, [], []⟩, ⟨103, [], [], [], noW (_), false, [], []⟩, ⟨104, [2, 3], [], [], noW (_), false, [], []⟩, ⟨105, [], [], [], noW (_), false, [], []⟩, ⟨106, [5], [], [], noW (_), false, [], []⟩, ⟨107, [6], [], [], noW (_), false, [], []⟩, ⟨108, [1, 4, 7], [], [], noW (_), false, [], []⟩, ⟨109, [], [], [], noW (_), false, [], []⟩, ⟨110, [9], [], [], noW (_), false, [], []⟩, ⟨111, [10], [], [], noW (_), false, [], []⟩, ⟨112, [], [], [], noW (Det undef), false, [], []⟩, ⟨113, [], [], [], noW (Det undef), false, [], []⟩, ⟨114, [11, 13], [], [], noW (_), false, [], []⟩, ⟨115, [], [], [], noW (_), false, [], []⟩, ⟨116, [15], [], [], noW (_), false, [], []⟩, ⟨10, [0], [], [], noW (_), false, [], []⟩, ⟨150, [8], [], [(11, _)], noW (_), false, [], []⟩, ⟨12, [14], [], [], noW (_), false, [], []⟩]) [11] [1, 7, 8, 18, 11] [⟨100, [], [], false, [], []⟩, ⟨101, [], [], false, [], []⟩, ⟨102, [], [], false, [], []⟩, ⟨103, [], [], false, [], []⟩, ⟨104, [2, 3], [], false, [], []⟩, ⟨105, [], [], false, [], []⟩, ⟨106, [5], [], false, [], []⟩, ⟨107, [6], [], false, [], []⟩, ⟨108, [1, 4, 7], [], false, [], []⟩, ⟨109, [], [], false, [], []⟩, ⟨110, [9], [], false, [], []⟩, ⟨111, [10], [], false, [], []⟩, ⟨112, [], [], false, [], []⟩, ⟨113, [], [], false, [], []⟩, ⟨114, [11, 13], [], false, [], []⟩, ⟨115, [], [], false, [], []⟩, ⟨116, [15], [], false, [], []⟩, ⟨10, [0], [], false, [], []⟩, ⟨150, [8], [], false, [], []⟩, ⟨12, [14], [], false, [], []⟩] [[], [], [], [], [], [], [], [], [], [], [], [], [], [], [], [], [], [], [], []] [[], [], [], [], [], [], [], [], [], [], [], [], [], [], [], [], [], [], [(11, _)], []] tMixxg (fun _ => by rfl) (fun _ => by rfl) (by kernel_rfl) (by kernel_rfl) (by rfl) (by rfl)
        (fun β => ⟨.p rfl (by intro X; exact op_move rfl),
        ⟨.p rfl (by intro X; exact op_loadA rfl tA52xg (Ent.lab (l := 7) rfl (says_cel 0)) (Nat.le_of_ble_eq_true rfl)),
        ⟨.p rfl (by intro X; exact op_loadA rfl tA41xg (Ent.lab (l := 8) rfl (says_cel 0)) (Nat.le_of_ble_eq_true rfl)),
        ⟨.p rfl (by intro X; exact op_loadA rfl tA52xg (Ent.lab (l := 7) rfl (says_cel 0)) (Nat.le_of_ble_eq_true rfl)),
        ⟨.p rfl (by intro X; rintro _ _ ⟨rfl, rfl⟩ _ _ ⟨rfl, rfl⟩; exact op_fn Try.func41 rfl rfl rfl (fn_imp (mnumber_any x hx.2 (by omega)) (fun u ρ hu => (by rw [← hn] at hu; exact hu : u = .int .i64 n ∧ ρ = [])))),
        ⟨.p rfl (by intro X; exact op_fieldAddr (off := 0) rfl tF52_0xg),
        ⟨.p rfl (by intro X; rintro _ _ ⟨rfl, rfl⟩; exact op_load1 rfl tO50xg (Ent.lab (l := 7) rfl (says_cel 0))),
        ⟨.p rfl (by intro X; rintro _ _ ⟨rfl, rfl⟩; exact op_lenT (enc := encSegV) (l := Y) rfl tS50xg (Sl.ent (hm.slx rfl (by omega)))),
        ⟨.p rfl (by intro X; rintro _ _ ⟨rfl, rfl⟩ _ _ ⟨rfl, rfl⟩ _ _ ⟨rfl, rfl⟩; exact op_fn Try.func40 rfl rfl rfl (fn_imp (mtrunc_any n Y.length (by omega) (by omega) (hm.slx rfl (by omega)) (hm.slr rfl (by omega)) (by omega)) (fun u ρ hu => (by rw [← hj] at hu; exact hu : u = .agg #[.slice (subJ a c j).1 (Y.drop j).length (subJ a c j).2, .int .i64 ((L.first + (recsX (Y.take j)).length : Nat) : Int), .slice p L.pend.length cp, .bool L.fresh] ∧ ρ = [])))),
        ⟨.p rfl (by intro X; exact op_move rfl),
        ⟨.p rfl (by intro X; rintro _ _ ⟨rfl, rfl⟩; exact op_val (v' := .bool true) (by rw [decide_eq_true (he.resolve_left h27)]) (op_eql rfl rfl)),
        ⟨.p rfl (by intro X; rintro _ _ ⟨rfl, rfl⟩; exact op_move rfl),
        ⟨.u rfl rfl rfl (by rintro _ _ ⟨rfl, rfl⟩; exact congrArg (offB false) (by rfl : _ = Value.bool true)) ⟨rfl, rfl⟩ rfl rfl,
        ⟨.u rfl rfl rfl (by rintro _ _ ⟨rfl, rfl⟩; exact congrArg (offB false) (by rfl : _ = Value.bool true)) ⟨rfl, rfl⟩ rfl rfl,
        ⟨.p rfl (by intro X; rintro _ _ ⟨rfl, rfl⟩ _ _ ⟨rfl, rfl⟩; exact op_pick_t rfl rfl),
        ⟨.p rfl (by intro X; exact op_move rfl),
        ⟨.p rfl (by intro X; rintro _ _ ⟨rfl, rfl⟩; exact op_eql rfl rfl),
        ⟨.p rfl (by intro X; rintro _ _ ⟨rfl, rfl⟩; exact op_assign rfl),
        ⟨.p rfl (by intro X; rintro _ _ ⟨rfl, rfl⟩; exact op_store rfl rfl tZ52xg (by rfl) (by rfl) (by exact Nat.le_of_ble_eq_true rfl)) (hu := by exact .inr fun _ _ h => h.1),
        ⟨.p rfl (by intro X; rintro _ _ ⟨rfl, rfl⟩; exact op_assign rfl),
        trivial⟩⟩⟩⟩⟩⟩⟩⟩⟩⟩⟩⟩⟩⟩⟩⟩⟩⟩⟩⟩)
        (fun β β' => ⟨fun _ => by rfl, ⟨fun _ => by rfl, ⟨fun _ => by rfl, ⟨fun _ => by rfl, ⟨fun _ => by rfl, ⟨fun _ => by rfl, ⟨fun _ => by rfl, ⟨fun _ => by rfl, ⟨fun _ => by rfl, ⟨fun _ => by rfl, ⟨fun _ => by rfl, ⟨fun _ => by rfl, ⟨fun _ => by rfl, ⟨fun _ => by rfl, ⟨fun _ => by rfl, ⟨fun _ => by rfl, ⟨fun _ => by rfl, ⟨fun _ => by rfl, ⟨fun _ => by rfl, ⟨fun _ => by rfl, trivial⟩⟩⟩⟩⟩⟩⟩⟩⟩⟩⟩⟩⟩⟩⟩⟩⟩⟩⟩⟩) ?_
    intro β
    rintro _ _ ⟨rfl, rfl⟩ _ _ ⟨rfl, rfl⟩ _ _ ⟨rfl, rfl⟩ _ _ ⟨rfl, rfl⟩ _ _ ⟨rfl, rfl⟩ _ _ ⟨rfl, rfl⟩ _ _ ⟨rfl, rfl⟩ _ _ ⟨rfl, rfl⟩ _ _ ⟨rfl, rfl⟩ _ _ ⟨rfl, rfl⟩ _ _ ⟨rfl, rfl⟩ _ _ ⟨rfl, rfl⟩ _ _ ⟨rfl, rfl⟩ _ _ ⟨rfl, rfl⟩ _ _ ⟨rfl, rfl⟩ _ _ ⟨rfl, rfl⟩ _ _ ⟨rfl, rfl⟩ _ _ ⟨rfl, rfl⟩ _ _ ⟨rfl, rfl⟩ _ _ ⟨rfl, rfl⟩
    refine wl_norm (e' := [(10, _), (11, _), (12, _), (116, _)]) (.cons rfl (.cons rfl (.cons rfl (.cons rfl (.nil _))))) (by dsimp only [cond_false, cond_true, List.nil_append, List.cons_append]) ?_
    refine za rfl (wl_nil (st_tn (w_ret (st_br (st_tr (st_ret (vs := [_, _, _, _]) [601, 611, 605, 606] Try.results27 ⟨rfl, ⟨⟨_, rfl, Ent.mono (Ent.lab (l := 11) rfl (says_cel 0)) (fun _ h => run_load_agg tA52xg h (Nat.le_of_ble_eq_true rfl))⟩, ⟨rfl, ⟨rfl, trivial⟩⟩⟩⟩ rfl ?_))))))
    refine ⟨[(601, _), (611, _), (605, _), (606, _)], rfl, ?_⟩
    refine ⟨_, ⟨(subJ a c j).1, (subJ a c j).2, p, cp, Y.drop j, ?_⟩, rfl, rfl⟩
    rw [← hYl, ← htj, ← hj]
    refine ⟨?_, .sub j hm.inx (by omega), fun x hx => hm.ins x (List.mem_of_mem_drop hx), hm.inp, yrel_drop hm.rel j⟩
    have h3 := congrArg List.length (yrel_take hm.rel j).recs
    unfold dropL
    dsimp only
    rw [← h3]; rfl
end Go.Proofs.Ytcbigmgakdanjaa
namespace Go.Proofs.Ytcbigmgakdanjaa
open Go Go.SL Go.RowKit Go.RdM Go.WalM
set_option linter.unusedVariables false
set_option linter.unusedSimpArgs false
theorem tA52xh : aggB Try.prog 52 4 = true := by kernel_rfl
theorem tF52_0xh : fieldB Try.prog 52 0 0 = true := by kernel_rfl
theorem tF52_1xh : fieldB Try.prog 52 1 1 = true := by kernel_rfl
theorem tF52_2xh : fieldB Try.prog 52 2 2 = true := by kernel_rfl
theorem tF96_0xh : fieldB Try.prog 96 0 0 = true := by kernel_rfl
theorem tMixxh : Try.prog.follows .mixedOrders = true := by kernel_rfl
theorem tO3xh : oneB Try.prog 3 = true := by kernel_rfl
theorem tO35xh : oneB Try.prog 35 = true := by kernel_rfl
theorem tO50xh : oneB Try.prog 50 = true := by kernel_rfl
theorem tO9xh : oneB Try.prog 9 = true := by kernel_rfl
theorem tS35xh : sliceB Try.prog 35 9 1 = true := by kernel_rfl
theorem tS50xh : sliceB Try.prog 50 96 3 = true := by kernel_rfl
theorem rep_all {L : Lg} (hS : OkS L.first L.segs) (hb : L.broken = false) : repS (rawL L) (allR L.segs) L.first = allR L.segs ∧ repE (rawL L) L.first = 0 := by
  have h1 := firstV_raw hS
  have h2 := lastV_raw hS
  rw [if_neg (by simp [hb])] at h1 h2
  have hp := hS.pos
  have h3 : repE (rawL L) L.first = 0 := by
    unfold repE
    rw [if_neg (by show ¬ L.broken = true; simp [hb]), h1, h2, if_neg (by unfold lastN; omega), if_neg (by omega)]
  refine ⟨?_, h3⟩
  unfold repS
  rw [if_pos h3, h1]; simp
set_option maxHeartbeats 400000 in
set_option maxRecDepth 100000 in
theorem agrees_any {σ : World} {F : List Res} {b d m c0 cp0 : Nat} {a0 p0 : Option Addr} {l : List (Int × List UInt8)} {nm : RdM.Bs} {L : Lg} {P1 : PS} {P2 : PX} {v : Value} (hS : Sm L) (hM : MS P1 P2 v L) (hnm : nm.length ≤ 48) (hmap : IsMap l L.first (allR L.segs)) :
    FnT Try.prog σ F 31 [v, .pointer (some ⟨b, 0, none⟩), .string (str nm)] [(611, cel b (cellL d nm (rawL L) m a0 c0 p0 cp0) 76), (612, slW 87 encRow 4 (.slice a0 (rowsOf L.first L.segs).length c0) (rowsOf L.first L.segs)), (613, mp KZ encSV m l), (614, slW 9 encT 1 (.slice p0 L.pend.length cp0) L.pend), (605, poolS P1), (606, poolX P2)]
      (fun u ρ => u = .bool true ∧ ρ = [(611, cel b (cellL d nm (rawL L) m a0 c0 p0 cp0) 76), (612, slW 87 encRow 4 (.slice a0 (rowsOf L.first L.segs).length c0) (rowsOf L.first L.segs)), (613, mp KZ encSV m l), (614, slW 9 encT 1 (.slice p0 L.pend.length cp0) L.pend), (605, poolS P1), (606, poolX P2)]) := by
  refine fn_of 80 Try.func31 rfl Try.ntmps31 rfl ?_
  obtain ⟨a, c, p, cp, Y, hm⟩ := hM
  have hval := hm.val
  subst hval
  have hb := hS.br
  have hbf : ¬ L.broken = true := by simp [hb]
  have hal := hS.all
  have hfs := hS.fst
  have hsg := hS.segl
  have hpe := hS.pe
  have hYl := hm.rel.len
  have hrec := hm.rel.recs
  have hrl := congrArg List.length hrec
  have hpos := hS.ok.seg.pos
  obtain ⟨hra, hre⟩ := rep_all hS.ok.seg hb
  have hrw := hS.ok.rowl
  have hlv := lastV_raw hS.ok.seg
  have hfv := firstV_raw hS.ok.seg
  rw [if_neg hbf] at hlv hfv
  have hmaps : L.segs.map (fun x => fileN nm x.num) = (rowsOf L.first L.segs).map fun r => fileN nm r.1 := by
    have e : ∀ (f : Nat) (S : List Sg), (rowsOf f S).map (fun r => fileN nm r.1) = S.map fun x => fileN nm x.num := fun f S => by
      induction S generalizing f with
      | nil => rfl
      | cons x S ih => rw [rowsOf, List.map_cons, List.map_cons, ih]
    exact (e _ _).symm
  obtain ⟨fl, hfl⟩ : ∃ fl, fl = L.segs.map fun x => fileN nm x.num := ⟨_, rfl⟩
  have hfll : fl.length = L.segs.length := by rw [hfl]; exact List.length_map ..
  rw [← hfl] at hmaps
  refine w_seq (w_region (wl_op [] rfl rfl rfl rfl (op_box (T := 52) (l := 3) rfl) ?_))
  rintro _ _ ⟨b3, rfl, rfl⟩
  refine za rfl (wl_nil (st_tn (w_seq (w_seq ?_))))
  refine w_draw (D := [⟨11, [], [], [], _, false, [], []⟩, ⟨12, [0], [], [], _, false, [], []⟩, ⟨13, [1], [], [], _, false, [], []⟩, ⟨14, [], [], [], _, false, [], []⟩, ⟨15, [3], [], [], _, false, [], []⟩, ⟨16, [], [], [], _, false, [], []⟩, ⟨17, [5], [], [], _, false, [], []⟩, ⟨18, [4, 6], [], [], _, false, [], []⟩, ⟨19, [2, 7], [], [], _, false, [], []⟩, ⟨20, [8], [], [], _, false, [], []⟩, ⟨21, [], [], [], _, false, [], []⟩, ⟨22, [10], [], [], _, false, [], []⟩, ⟨23, [], [], [], _, false, [], []⟩, ⟨24, [12], [], [], _, false, [], []⟩, ⟨25, [11, 13], [], [], _, false, [], []⟩, ⟨26, [9, 14], [], [], _, false, [], []⟩, ⟨27, [15], [], [], _, false, [], []⟩, ⟨28, [], [], [], _, false, [], []⟩, ⟨29, [17], [], [], _, false, [], []⟩, ⟨30, [], [], [], _, false, [], []⟩, ⟨31, [19], [], [], _, false, [], []⟩, ⟨32, [20], [], [], _, false, [], []⟩, ⟨33, [18, 21], [], [], _, false, [], []⟩, ⟨34, [16, 22], [], [], _, false, [], []⟩]) [] [1, 3] [⟨11, [], [], false, [], []⟩, ⟨12, [0], [], false, [], []⟩, ⟨13, [1], [], false, [], []⟩, ⟨14, [], [], false, [], []⟩, ⟨15, [3], [], false, [], []⟩, ⟨16, [], [], false, [], []⟩, ⟨17, [5], [], false, [], []⟩, ⟨18, [4, 6], [], false, [], []⟩, ⟨19, [2, 7], [], false, [], []⟩, ⟨20, [8], [], false, [], []⟩, ⟨21, [], [], false, [], []⟩, ⟨22, [10], [], false, [], []⟩, ⟨23, [], [], false, [], []⟩, ⟨24, [12], [], false, [], []⟩, ⟨25, [11, 13], [], false, [], []⟩, ⟨26, [9, 14], [], false, [], []⟩, ⟨27, [15], [], false, [], []⟩, ⟨28, [], [], false, [], []⟩, ⟨29, [17], [], false, [], []⟩, ⟨30, [], [], false, [], []⟩, ⟨31, [19], [], false, [], []⟩, ⟨32, [20], [], false, [], []⟩, ⟨33, [18, 21], [], false, [], []⟩, ⟨34, [16, 22], [], false, [], []⟩] tMixxh (by rfl) (by kernel_rfl) (by rfl) (by rfl)
      ⟨.plain rfl (by intro X; exact op_move rfl),
      ⟨.plain rfl (by intro X; rintro _ _ ⟨rfl, rfl⟩; exact op_val (v' := .bool false) (by rfl) (op_eqPtr rfl Try.underlying23)),
      ⟨.plain rfl (by intro X; rintro _ _ ⟨rfl, rfl⟩; exact op_move rfl),
      ⟨.wanted rfl rfl rfl (by rintro _ _ ⟨rfl, rfl⟩; rfl) (by intro X; exact op_move rfl),
      ⟨.wanted rfl rfl rfl (by rintro _ _ ⟨rfl, rfl⟩; rfl) (by intro X; rintro _ _ ⟨rfl, rfl⟩; exact op_fn Try.func35 rfl rfl rfl (first_any (v := rawL L) (celLg 611 rfl) (Sl.lab 612 rfl (by show (rowsOf L.first L.segs).length ≤ _; unfold maxLen; omega)))),
      ⟨.wanted rfl rfl rfl (by rintro _ _ ⟨rfl, rfl⟩; rfl) (by intro X; exact op_fieldAddr (off := 1) rfl tF52_1xh),
      ⟨.wanted rfl rfl rfl (by rintro _ _ ⟨rfl, rfl⟩; rfl) (by intro X; rintro _ _ ⟨rfl, rfl⟩; exact op_load1 rfl tO3xh (Ent.lab (l := 3) rfl (says_cel 1))),
      ⟨.wanted rfl rfl rfl (by rintro _ _ ⟨rfl, rfl⟩; rfl) (by intro X; rintro _ _ ⟨rfl, rfl⟩ _ _ ⟨rfl, rfl⟩; exact op_val (v' := .bool false) (by rw [hfv]; simp) (op_neq rfl rfl)),
      ⟨.plain rfl (by intro X; rintro _ _ ⟨rfl, rfl⟩ _ _ ⟨rfl, rfl⟩; exact op_pick_f rfl rfl),
      ⟨.plain rfl (by intro X; rintro _ _ ⟨rfl, rfl⟩; exact op_move rfl),
      ⟨.wanted rfl rfl rfl (by rintro _ _ ⟨rfl, rfl⟩; rfl) (by intro X; exact op_move rfl),
      ⟨.wanted rfl rfl rfl (by rintro _ _ ⟨rfl, rfl⟩; rfl) (by intro X; rintro _ _ ⟨rfl, rfl⟩; exact op_fn Try.func17 rfl rfl rfl (last_any (v := rawL L) (celLg 611 rfl) (Sl.lab 612 rfl (by show (rowsOf L.first L.segs).length ≤ _; unfold maxLen; omega)))),
      ⟨.wanted rfl rfl rfl (by rintro _ _ ⟨rfl, rfl⟩; rfl) (by intro X; exact op_loadA rfl tA52xh (Ent.lab (l := 3) rfl (says_cel 0)) (Nat.le_of_ble_eq_true rfl)),
      ⟨.wanted rfl rfl rfl (by rintro _ _ ⟨rfl, rfl⟩; rfl) (by intro X; rintro _ _ ⟨rfl, rfl⟩; exact op_fn Try.func29 rfl rfl rfl (mlast_any (hm.slx rfl (by omega)) (hm.slr rfl (by omega)) (by omega) (by omega))),
      ⟨.wanted rfl rfl rfl (by rintro _ _ ⟨rfl, rfl⟩; rfl) (by intro X; rintro _ _ ⟨rfl, rfl⟩ _ _ ⟨rfl, rfl⟩; exact op_val (v' := .bool false) (by rw [hlv, decide_eq_false]; intro h; apply h; unfold lastN; omega) (op_neq rfl rfl)),
      ⟨.plain rfl (by intro X; rintro _ _ ⟨rfl, rfl⟩ _ _ ⟨rfl, rfl⟩; exact op_pick_f rfl rfl),
      ⟨.plain rfl (by intro X; rintro _ _ ⟨rfl, rfl⟩; exact op_move rfl),
      ⟨.wanted rfl rfl rfl (by rintro _ _ ⟨rfl, rfl⟩; rfl) (by intro X; exact op_move rfl),
      ⟨.wanted rfl rfl rfl (by rintro _ _ ⟨rfl, rfl⟩; rfl) (by intro X; rintro _ _ ⟨rfl, rfl⟩; exact op_fn Try.func21 rfl rfl rfl (pending_any (v := rawL L) (celLg 611 rfl) (Sl.lab 614 rfl (by show L.pend.length ≤ _; unfold maxLen; omega)))),
      ⟨.wanted rfl rfl rfl (by rintro _ _ ⟨rfl, rfl⟩; rfl) (by intro X; exact op_fieldAddr (off := 2) rfl tF52_2xh),
      ⟨.wanted rfl rfl rfl (by rintro _ _ ⟨rfl, rfl⟩; rfl) (by intro X; rintro _ _ ⟨rfl, rfl⟩; exact op_load1 rfl tO35xh (Ent.lab (l := 3) rfl (says_cel 2))),
      ⟨.wanted rfl rfl rfl (by rintro _ _ ⟨rfl, rfl⟩; rfl) (by intro X; rintro _ _ ⟨rfl, rfl⟩; exact op_lenT (enc := encT) (l := L.pend) rfl tS35xh (Sl.ent (hm.slp rfl (by omega)))),
      ⟨.wanted rfl rfl rfl (by rintro _ _ ⟨rfl, rfl⟩; rfl) (by intro X; rintro _ _ ⟨rfl, rfl⟩ _ _ ⟨rfl, rfl⟩; exact op_val (v' := .bool false) (by rw [if_neg (show ¬ (rawL L).broken = true from hbf)]; show Value.bool (decide (¬ (L.pend.length : Int) = L.pend.length)) = _; simp) (op_neq rfl rfl)),
      ⟨.plain rfl (by intro X; rintro _ _ ⟨rfl, rfl⟩ _ _ ⟨rfl, rfl⟩; exact op_pick_f rfl rfl),
      trivial⟩⟩⟩⟩⟩⟩⟩⟩⟩⟩⟩⟩⟩⟩⟩⟩⟩⟩⟩⟩⟩⟩⟩⟩ ?_
  rintro _ _ ⟨rfl, rfl⟩ _ _ ⟨rfl, rfl⟩ _ _ ⟨rfl, rfl⟩ _ _ ⟨rfl, rfl⟩ _ _ ⟨rfl, rfl⟩ _ _ ⟨rfl, rfl⟩ _ _ ⟨rfl, rfl⟩ _ _ ⟨rfl, rfl⟩ _ _ ⟨rfl, rfl⟩ _ _ ⟨rfl, rfl⟩ _ _ ⟨rfl, rfl⟩ _ _ ⟨rfl, rfl⟩ _ _ ⟨rfl, rfl⟩ _ _ ⟨rfl, rfl⟩ _ _ ⟨rfl, rfl⟩ _ _ ⟨rfl, rfl⟩ _ _ ⟨rfl, rfl⟩ _ _ ⟨rfl, rfl⟩ _ _ ⟨rfl, rfl⟩ _ _ ⟨rfl, rfl⟩ _ _ ⟨rfl, rfl⟩ _ _ ⟨rfl, rfl⟩ _ _ ⟨rfl, rfl⟩ _ _ ⟨rfl, rfl⟩
  refine wl_norm (e' := [(1, _), (2, _), (3, _), (34, _)]) (.cons rfl (.cons rfl (.cons rfl (.cons rfl (.nil _))))) (by dsimp only [cond_false, cond_true, List.nil_append, List.cons_append]) ?_
  refine wl_nil (st_tn (w_cond_f (rfl) ?_))
  refine w_skip (st_tn (w_seq (w_region (zm rfl (zd rfl (op_fieldAddr (off := 1) rfl tF52_1xh) (zd rfl (op_load1 rfl tO3xh (Ent.lab (l := 3) rfl (says_cel 1))) (wl_op [] rfl rfl rfl rfl (op_fn Try.func24 rfl rfl rfl (fn_imp (replay_any (v := rawL L) (all := allR L.segs) 39 (L.first : Int) (by omega) (recs_raw hS.ok.seg hmap) (by rw [hlv]; unfold lastN; omega) (celLg 611 rfl) (Sl.lab 612 rfl (by show (rowsOf L.first L.segs).length ≤ _; unfold maxLen; omega)) (Mr.lab 613 rfl)) (fun u ρ hu => (by rw [hra, hre] at hu; exact hu : ∃ a' c', u = .tuple #[.slice a' (allR L.segs).length c', .int .i64 0] ∧ ρ = [(39, slW 9 encT 1 (.slice a' (allR L.segs).length c') (allR L.segs))])))) ?_)))))))
  rintro _ _ ⟨a39, c39, rfl, rfl⟩
  refine zm rfl (zd rfl (op_extract rfl rfl) (zd rfl (op_extract rfl rfl) (za rfl (za rfl (wl_nil (st_tn (w_seq (w_region (zm rfl (wl_op [] rfl rfl rfl rfl (op_fn Try.func18 rfl rfl rfl (fn_imp (segm_any (v := rawL L) 43 (celLg 611 rfl) (Sl.lab 612 rfl (by show (rowsOf L.first L.segs).length ≤ _; unfold maxLen; omega)) (fun r hr => (hS.ok.rown r hr).1) (by show (rowsOf L.first L.segs).length ≤ _; omega) (by omega)) (fun u ρ hu => (by rw [if_neg (show ¬ (rawL L).broken = true from hbf)] at hu; rw [hmaps]; exact hu : ∃ a' c', u = .slice a' fl.length c' ∧ ρ = [(43, slW 9 encT 1 (.slice a' fl.length c') fl)])))) ?_))))))))))
  rintro _ _ ⟨a43, c43, rfl, rfl⟩
  refine za rfl (wl_nil (st_tn (w_seq (w_seq (w_region (zm rfl (zd rfl (op_val (v' := .bool false) (by rfl) (op_neq rfl rfl)) ?_)))))))
  refine zm rfl (wl_wanted_det rfl rfl rfl rfl rfl rfl rfl (op_move rfl) (wl_wanted_det rfl rfl rfl rfl rfl rfl rfl (op_loadA rfl tA52xh (Ent.lab (l := 3) rfl (says_cel 0)) (Nat.le_of_ble_eq_true rfl)) (wl_wanted [] rfl rfl rfl rfl rfl rfl rfl rfl (op_fn Try.func28 rfl rfl rfl (mall_any 49 (hm.slx rfl (by omega)) (hm.slr rfl (by omega)) (by omega))) ?_)))
  rintro _ _ ⟨a49, c49, rfl, rfl⟩
  refine wl_wanted_det rfl rfl rfl rfl rfl rfl rfl (op_fn Try.func25 rfl rfl rfl (fn_imp (same_any (Sl.lab 39 rfl (by unfold maxLen; omega)) (Sl.lab 49 rfl (by unfold maxLen; omega))) (fun u ρ hu => (⟨by rw [hu.1, decide_eq_true hrec.symm], hu.2⟩ : u = .bool true ∧ ρ = [])))) ?_
  refine wl_wanted_det rfl rfl rfl rfl rfl rfl rfl (op_not_t rfl) (zd rfl (op_pick_f rfl rfl) (zm rfl (wl_wanted_det rfl rfl rfl rfl rfl rfl rfl (op_move rfl) (wl_wanted_det rfl rfl rfl rfl rfl rfl rfl (op_lenT (enc := encT) (l := fl) rfl tS35xh (Sl.ent (Sl.lab (E := 9) (enc := encT) (l := fl) 43 rfl (by rw [hfll]; unfold maxLen; omega)))) ?_))))
  refine wl_wanted_det rfl rfl rfl rfl rfl rfl rfl (op_fieldAddr (off := 0) rfl tF52_0xh) (wl_wanted_det rfl rfl rfl rfl rfl rfl rfl (op_load1 rfl tO50xh (Ent.lab (l := 3) rfl (says_cel 0))) (wl_wanted_det rfl rfl rfl rfl rfl rfl rfl (op_lenT (enc := encSegV) (l := Y) rfl tS50xh (Sl.ent (hm.slx rfl (by omega)))) ?_))
  refine wl_wanted_det rfl rfl rfl rfl rfl rfl rfl (op_val (v' := .bool false) (by rw [decide_eq_false]; intro h; apply h; rw [hfll, hYl]) (op_neq rfl rfl)) ?_
  refine zd rfl (op_pick_f rfl rfl) (wl_nil (st_tn (w_cond_f (rfl) ?_)))
  refine w_skip (st_tn (w_seq (w_seq (w_region (za rfl (wl_nil (st_tn (w_block ?_))))))))
  refine w_loopQ (X := Nat) (fun z => z ≤ L.segs.length) (fun z => [(10, .int .i64 (z))]) (fun _ => []) (fun z => L.segs.length - z) (0) [(2, _), (3, _), (9, _)] [(611, _), (612, _), (613, _), (614, _), (605, _), (606, _), (3, _), (39, _), (43, _), (49, _)] [611, 612, 613, 614, 605, 606, 3, 39, 43, 49] rfl (rfl) (.cons rfl (.nil _)) (.cons rfl (.cons rfl (.cons rfl (.nil _)))) (by
      try dsimp only
      exact Nat.zero_le _) ?_
  rintro i hi
  refine w_norm2 (by dsimp only [List.cons_append, List.nil_append]) (by dsimp only [List.cons_append, List.nil_append]) ?_
  try dsimp only at hi ⊢
  refine w_seq (w_seq (w_region (zm rfl (zm rfl (zd rfl (op_lenT (enc := encT) (l := fl) rfl tS35xh (Sl.ent (Sl.lab (E := 9) (enc := encT) (l := fl) 43 rfl (by rw [hfll]; unfold maxLen; omega)))) ?_)))))
  refine zd rfl (op_lss rfl rfl) (wl_nil (st_tn (w_cond_d rfl (fun hc64 => ?_) (fun hc64 => ?_))))
  · -- c64.t
    obtain ⟨x, hx⟩ := getE (l := L.segs) (i := i) (by omega)
    obtain ⟨y, hy⟩ := getE (l := Y) (i := i) (by omega)
    have hfx : fl[i]? = some (fileN nm x.num) := by rw [hfl, List.getElem?_map, hx]; rfl
    have hyn : y.num = x.num := by
      have h1 := congrArg (fun l : List (Nat × Nat × List RdM.Bs) => l[i]?) hm.rel
      simp only [List.getElem?_map, hx, hy, Option.map_some, Option.some.injEq, Prod.mk.injEq] at h1
      exact h1.1
    have hxn := hS.ok.seg.num x (List.mem_of_getElem? hx)
    refine w_skip (st_tn (w_seq (w_block (w_seq ?_))))
    refine w_draw (D := [⟨67, [], [], [], _, false, [], []⟩, ⟨68, [], [], [], _, false, [], []⟩, ⟨69, [0, 1], [], [], _, false, [], []⟩, ⟨70, [2], [], [], _, false, [], []⟩, ⟨71, [], [], [], _, false, [], []⟩, ⟨72, [], [], [], _, false, [], []⟩, ⟨73, [5], [], [], _, false, [], []⟩, ⟨74, [], [], [], _, false, [], []⟩, ⟨75, [6, 7], [], [], _, false, [], []⟩, ⟨76, [8], [], [], _, false, [], []⟩, ⟨77, [9], [], [], _, false, [], []⟩, ⟨78, [4, 10], [], [], _, false, [], []⟩]) [] [9, 10, 2, 3] [⟨67, [], [], false, [], []⟩, ⟨68, [], [], false, [], []⟩, ⟨69, [0, 1], [], false, [], []⟩, ⟨70, [2], [], false, [], []⟩, ⟨71, [], [], false, [], []⟩, ⟨72, [], [], false, [], []⟩, ⟨73, [5], [], false, [], []⟩, ⟨74, [], [], false, [], []⟩, ⟨75, [6, 7], [], false, [], []⟩, ⟨76, [8], [], false, [], []⟩, ⟨77, [9], [], false, [], []⟩, ⟨78, [4, 10], [], false, [], []⟩] tMixxh (by rfl) (by kernel_rfl) (by rfl) (by rfl)
        ⟨.plain rfl (by intro X; exact op_move rfl),
        ⟨.plain rfl (by intro X; exact op_move rfl),
        ⟨.plain rfl (by intro X; rintro _ _ ⟨rfl, rfl⟩ _ _ ⟨rfl, rfl⟩; exact op_idx (l := fl) rfl rfl tS35xh (Sl.ent (Sl.lab (E := 9) (enc := encT) (l := fl) 43 rfl (by rw [hfll]; unfold maxLen; omega))) (by omega)),
        ⟨.plain rfl (by intro X; rintro _ _ ⟨rfl, rfl⟩; exact op_ldx rfl tO9xh (Sl.lab (E := 9) (enc := encT) (l := fl) 43 rfl (by rw [hfll]; unfold maxLen; omega)) hfx (by rfl)),
        ⟨.plain rfl (by intro X; exact op_move rfl),
        ⟨.plain rfl (by intro X; exact op_fieldAddr (off := 0) rfl tF52_0xh),
        ⟨.plain rfl (by intro X; rintro _ _ ⟨rfl, rfl⟩; exact op_load1 rfl tO50xh (Ent.lab (l := 3) rfl (says_cel 0))),
        ⟨.plain rfl (by intro X; exact op_move rfl),
        ⟨.plain rfl (by intro X; rintro _ _ ⟨rfl, rfl⟩ _ _ ⟨rfl, rfl⟩; exact op_idx (l := Y) rfl rfl tS50xh (Sl.ent (hm.slx rfl (by omega))) (by omega)),
        ⟨.plain rfl (by intro X; rintro _ _ ⟨rfl, rfl⟩; exact op_fieldAddr (off := 0) rfl tF96_0xh),
        ⟨.plain rfl (by intro X; rintro _ _ ⟨rfl, rfl⟩; exact op_ldxf rfl tO3xh (hm.slx rfl (by omega)) hy (by rfl)),
        ⟨.plain rfl (by intro X; rintro _ _ ⟨rfl, rfl⟩ _ _ ⟨rfl, rfl⟩; exact op_fn Try.func57 rfl rfl rfl (fn_imp (mname_any nm y.num (by omega) (by omega)) (fun u ρ hu => (by rw [hyn] at hu; exact hu : u = .string (str (fileN nm x.num)) ∧ ρ = [])))),
        trivial⟩⟩⟩⟩⟩⟩⟩⟩⟩⟩⟩⟩ ?_
    rintro _ _ ⟨rfl, rfl⟩ _ _ ⟨rfl, rfl⟩ _ _ ⟨rfl, rfl⟩ _ _ ⟨rfl, rfl⟩ _ _ ⟨rfl, rfl⟩ _ _ ⟨rfl, rfl⟩ _ _ ⟨rfl, rfl⟩ _ _ ⟨rfl, rfl⟩ _ _ ⟨rfl, rfl⟩ _ _ ⟨rfl, rfl⟩ _ _ ⟨rfl, rfl⟩ _ _ ⟨rfl, rfl⟩
    refine wl_norm (e' := [(2, _), (3, _), (9, _), (10, _), (70, _), (78, _)]) (.cons rfl (.cons rfl (.cons rfl (.cons rfl (.cons rfl (.cons rfl (.nil _))))))) (by dsimp only [cond_false, cond_true, List.nil_append, List.cons_append]) ?_
    refine zd rfl (op_neBs rfl rfl) (wl_nil (st_tn (w_cond_d rfl (fun hc79 => ?_) (fun hc79 => ?_))))
    · -- c79.t
      exact absurd rfl hc79
    · -- c79.f
      refine w_skip (st_bn (st_tn (w_region (zm rfl (zd rfl (op_add' rfl rfl (by omega)) ?_)))))
      refine za rfl (wl_nil ?_)
      refine st_roundQ (x := i) (i + 1) [611, 612, 613, 614, 605, 606, 3, 39, 43, 49] rfl (rfl) (.cons rfl (.nil _)) (.cons rfl (.cons rfl (.cons rfl (.nil _)))) (by
          try dsimp only
          omega) (by
          try dsimp only
          omega)
  · -- c64.f
    refine w_exit (st_te ?_)
    refine st_te ?_
    refine st_be (st_tn (w_seq (w_region (za rfl (wl_nil (st_tn (w_ret (st_ret (vs := [_]) [611, 612, 613, 614, 605, 606] Try.results31 ⟨rfl, trivial⟩ rfl ?_))))))))
    refine ⟨[(611, _), (612, _), (613, _), (614, _), (605, _), (606, _)], rfl, ?_⟩
    exact ⟨rfl, rfl⟩
theorem agrees_c {σ : World} {F : List Res} {b d : Nat} {nm : RdM.Bs} {L : Lg} {P1 : PS} {P2 : PX} {v : Value} (lab : Nat) (hS : Sm L) (hM : MS P1 P2 v L) (hnm : nm.length ≤ 48) :
    FnT Try.prog σ F 31 [v, .pointer (some ⟨b, 0, none⟩), .string (str nm)] [(lab, lgR b d nm L), (605, poolS P1), (606, poolX P2)] (fun u ρ => u = .bool true ∧ ρ = [(lab, lgR b d nm L), (605, poolS P1), (606, poolX P2)]) :=
  fn_oc ((lg_opens b d nm L).app (opens_id [poolS P1, poolX P2])) rfl (R := fun i => cL b d nm L i.1.1 ++ [(605, poolS P1), (606, poolX P2)]) (fun i => rfl) (fun i => agrees_any (d := d) (m := i.1.1.1) (a0 := i.1.1.2.1) (c0 := i.1.1.2.2.1) (p0 := i.1.1.2.2.2.1) (cp0 := i.1.1.2.2.2.2.1) hS hM hnm i.1.2)
    fun i u ρ ⟨h1, h2⟩ => ⟨[(lab, lgR b d nm L), (605, poolS P1), (606, poolX P2)], ⟨h1, rfl⟩, by rw [h2]; exact Closes.app (lg_closes i.1.1 i.1.2) (Closes.refl [poolS P1, poolX P2])⟩
end Go.Proofs.Ytcbigmgakdanjaa
namespace Go.Proofs.Ytcbigmgakdanjaa
open Go Go.SL Go.RowKit Go.RdM Go.WalM
set_option linter.unusedVariables false
set_option linter.unusedSimpArgs false
def Clean (fs : DskM.Files) : Prop := ∀ p ∈ fs, p.2.dur = true ∧ p.2.syn = p.2.data.length
structure Rn (nm : RdM.Bs) (i : Nat) (L : Lg) (s : DskM.St) : Prop where
  ok : OkL L
  br : L.broken = false
  on : OnD nm L s
  good : DskM.Good s
  dn : s.down = false
  lm : s.lim = false
  cap : s.cap = 262144
  tot : L.first + (allR L.segs).length + L.pend.length ≤ i + 1
  pr : ∀ r ∈ L.pend, r.length ≤ 39
  num : ∀ x ∈ L.segs, x.num ≤ i
  cnt : s.fs.length ≤ i
  us : DskM.used s.fs + 48 * L.pend.length ≤ 84 * i
  cl : Clean s.fs
theorem Rn.sm {nm : RdM.Bs} {i : Nat} {L : Lg} {s : DskM.St} (h : Rn nm i L s) (hi : i ≤ 100) : Sm L := ⟨h.ok, h.br, by have := h.tot; omega, by have := h.tot; omega, by have := h.tot; have := h.ok.seg.pos; omega⟩
theorem rn_new (nm : RdM.Bs) : Rn nm 0 newL (newS 262144) := ⟨okl_new, rfl, onD_new nm _, good_new (by decide), rfl, rfl, rfl, by simp [newL, allR], fun r hr => by simp [newL] at hr, fun x hx => by simp [newL] at hx, by simp [newS], by simp [newS, newL, DskM.used], fun p hp => by simp [newS] at hp⟩
theorem Rn.app {nm : RdM.Bs} {i : Nat} {L : Lg} {s : DskM.St} (h : Rn nm i L s) (hi : i ≤ 100) {r : RdM.Bs} (hr : r.length ≤ 39) : Rn nm (i + 1) { L with pend := L.pend ++ [r] } s := by
  have ht := h.tot
  have hu := h.us
  have hp := h.ok.seg.pos
  refine ⟨⟨h.ok.seg, fun q hq => ?_, by show (L.pend ++ [r]).length ≤ _; rw [List.length_append, List.length_singleton]; omega, h.ok.sz⟩, h.br, ⟨h.on.holds, h.on.tail⟩, h.good, h.dn, h.lm, h.cap, by show L.first + (allR L.segs).length + (L.pend ++ [r]).length ≤ _; rw [List.length_append, List.length_singleton]; omega, fun q hq => ?_, fun x hx => by have := h.num x hx; omega, by have := h.cnt; omega, by show _ + 48 * (L.pend ++ [r]).length ≤ _; rw [List.length_append, List.length_singleton]; omega, h.cl⟩
  · rcases List.mem_append.1 hq with hq | hq
    · exact h.ok.pc q hq
    · rw [List.mem_singleton] at hq; subst hq; omega
  · rcases List.mem_append.1 hq with hq | hq
    · exact h.pr q hq
    · rw [List.mem_singleton] at hq; subst hq; exact hr
theorem Rn.mono {nm : RdM.Bs} {i : Nat} {L : Lg} {s : DskM.St} (h : Rn nm i L s) : Rn nm (i + 1) L s := ⟨h.ok, h.br, h.on, h.good, h.dn, h.lm, h.cap, by have := h.tot; omega, h.pr, fun x hx => by have := h.num x hx; omega, by have := h.cnt; omega, by have := h.us; omega, h.cl⟩
theorem Rn.dis {nm : RdM.Bs} {i : Nat} {L : Lg} {s : DskM.St} (h : Rn nm i L s) : Rn nm (i + 1) { L with pend := [] } s := ⟨⟨h.ok.seg, fun r hr => by simp at hr, by simp, h.ok.sz⟩, h.br, ⟨h.on.holds, h.on.tail⟩, h.good, h.dn, h.lm, h.cap, by have := h.tot; show L.first + (allR L.segs).length + 0 ≤ _; omega, fun r hr => by simp at hr, fun x hx => by have := h.num x hx; omega, by have := h.cnt; omega, by have := h.us; show _ + 48 * 0 ≤ _; omega, h.cl⟩
theorem Rn.opn {nm : RdM.Bs} {i : Nat} {L : Lg} {s : DskM.St} (h : Rn nm i L s) : Rn nm (i + 1) (openL L) s := ⟨⟨h.ok.seg, fun r hr => by simp [openL] at hr, by simp [openL], h.ok.sz⟩, rfl, ⟨h.on.holds, fun hh => by simp [openL] at hh⟩, h.good, h.dn, h.lm, h.cap, by have := h.tot; show L.first + (allR L.segs).length + 0 ≤ _; omega, fun r hr => by simp [openL] at hr, fun x hx => by have := h.num x hx; omega, by have := h.cnt; omega, by have := h.us; show _ + 48 * 0 ≤ _; omega, h.cl⟩
theorem sum_le {g : List RdM.Bs} (h : ∀ r ∈ g, r.length ≤ 39) : (g.map List.length).sum ≤ 39 * g.length := by
  induction g with
  | nil => simp
  | cons x g ih =>
    have h1 := ih fun r hr => h r (by simp [hr])
    have h2 := h x (by simp)
    simp only [List.map_cons, List.sum_cons, List.length_cons]; omega
theorem mem_set' {k : RdM.Bs} {f : DskM.Fl} {fs : DskM.Files} {q : RdM.Bs × DskM.Fl} (h : q ∈ DskM.setS fs k f) : q = (k, f) ∨ q ∈ fs := DskM.mem_setS h
theorem nextN_lt' {S : List Sg} {fr : Bool} {k : Nat} (h : ∀ x ∈ S, x.num ≤ k) : nextN S fr ≤ k + 1 := by
  rcases List.eq_nil_or_concat S with h0 | ⟨S', y, rfl⟩
  · subst h0; unfold nextN; simp
  · rw [List.concat_eq_append] at h ⊢
    have := h y (by simp)
    unfold nextN
    rw [List.getLast?_concat]
    dsimp only
    split <;> omega
theorem noteS_num' {S : List Sg} {n k : Nat} {g : List RdM.Bs} (h : ∀ x ∈ S, x.num ≤ k) (hn : n ≤ k) : ∀ x ∈ noteS S n g, x.num ≤ k := fun x hx => by
  rcases noteS_mem hx with h1 | ⟨y, h1, h2, h3⟩ | h1
  · exact h x h1
  · subst h3; exact hn
  · subst h1; exact hn
theorem Rn.com {nm : RdM.Bs} {i : Nat} {L : Lg} {s : DskM.St} (h : Rn nm i L s) (hi : i ≤ 100) (hnm : DskM.nameB nm = true ∧ nm.length ≤ 48) : ∃ s', comO nm L s = ((((lastN (commitL L) : Nat) : Int), 0), commitL L, s') ∧ Rn nm (i + 1) (commitL L) s' := by
  by_cases hp : L.pend = []
  · refine ⟨s, ?_, ?_⟩
    · rw [commitL_nil hp]; exact com_none h.br hp
    · rw [commitL_nil hp]; exact h.mono
  · have ht := h.tot
    have hu := h.us
    have hpo := h.ok.seg.pos
    have hnx := nextN_lt' (fr := L.fresh) h.num
    have hes := encG_sum (f := lastN L + 1) (g := L.pend) ⟨hp, h.ok.pl, h.ok.pc⟩ (by unfold lastN; omega)
    have hsm := sum_le h.pr
    have hcnt := h.cnt
    obtain ⟨s1, hs1, e1, e2, e3, e4, e5, e6, e7, e8, e9⟩ := com_all (nm := nm) h.ok h.on h.good h.dn h.lm hnm h.br hp (by omega) (by omega) (by rw [h.cap]; omega) (by omega)
    have hcl := lastN_commit hp
    have hac := allR_commit L
    have hacl := congrArg List.length hac
    rw [List.length_append] at hacl
    have hfc := first_commit L
    refine ⟨s1, e1, ⟨e4, by rw [hcl]; exact h.br, e3, e2, e5, e6, by rw [e7]; exact h.cap, ?_, by rw [hcl]; intro r hr; simp at hr, ?_, by omega, ?_, ?_⟩⟩
    · rw [hfc, hacl, hcl]; show _ + 0 ≤ _; omega
    · rw [hcl]; exact noteS_num' (fun x hx => by have := h.num x hx; omega) hnx
    · rw [e8, hcl]; show _ + 48 * 0 ≤ _; omega
    · rw [hs1]
      intro p hp2
      rcases mem_set' hp2 with rfl | hp2
      · exact ⟨rfl, rfl⟩
      · exact h.cl p hp2
theorem trS_le : ∀ (k f : Nat) (S : List Sg) (n : Int), trS f S n k ≤ S.length
  | 0, f, S, n => by cases S <;> simp [trS]
  | k + 1, f, [], n => by simp [trS]
  | k + 1, f, [x], n => by simp [trS]
  | k + 1, f, x :: y :: l, n => by
    rw [trS]
    have := trS_le k (f + x.recs.length) (y :: l) n
    simp only [List.length_cons] at *
    split <;> omega
end Go.Proofs.Ytcbigmgakdanjaa
namespace Go.Proofs.Ytcbigmgakdanjaa
open Go Go.SL Go.RowKit Go.RdM Go.WalM
set_option linter.unusedVariables false
set_option linter.unusedSimpArgs false
def nth (v : Value) (j : Nat) : Value := match v with
  | .agg a => a.getD j (.bool false)
  | _ => .bool false
def vA (v : Value) : Option Addr := match v with
  | .slice a _ _ => a
  | _ => none
def vL (v : Value) : Nat := match v with
  | .slice _ l _ => l
  | _ => 0
def vC (v : Value) : Nat := match v with
  | .slice _ _ c => c
  | _ => 0
def vZ (v : Value) : Int := match v with
  | .int _ z => z
  | _ => 0
def vB (v : Value) : Bool := match v with
  | .bool b => b
  | _ => false
def sl1 (v : Value) : Value := .slice (vA v) (vL v) (vC v)
def st4 (v : Value) : Value := .agg #[sl1 (nth v 0), .int .i64 (vZ (nth v 1)), sl1 (nth v 2), .bool (vB (nth v 3))]
theorem st4_agg (a p : Option Addr) (l m c q : Nat) (z : Int) (f : Bool) : st4 (.agg #[.slice a l c, .int .i64 z, .slice p m q, .bool f]) = .agg #[.slice a l c, .int .i64 z, .slice p m q, .bool f] := rfl
theorem MS.st4 {P1 : PS} {P2 : PX} {v : Value} {M : Lg} (h : MS P1 P2 v M) : MS P1 P2 (st4 v) M := by
  obtain ⟨a, c, p, cp, Y, hm⟩ := h
  have := hm.val
  subst this
  exact ⟨a, c, p, cp, Y, hm⟩
theorem MS.eq4 {P1 : PS} {P2 : PX} {v : Value} {M : Lg} (h : MS P1 P2 v M) : v = Go.Proofs.Ytcbigmgakdanjaa.st4 v := by
  obtain ⟨a, c, p, cp, Y, hm⟩ := h
  rw [hm.val]; rfl
abbrev RnT := PS × PX × Lg × DskM.St
def cR (nm : RdM.Bs) (d b : Nat) (x : RnT) : RL := [(601, dkR d x.2.2.2), (611, lgR b d nm x.2.2.1), (605, poolS x.1), (606, poolX x.2.1)]
abbrev ValX := Value
end Go.Proofs.Ytcbigmgakdanjaa
namespace Go.Proofs.Ytcbigmgakdanjaa
open Go Go.SL Go.RowKit Go.RdM Go.WalM
set_option linter.unusedVariables false
set_option linter.unusedSimpArgs false
theorem start_clean : ∀ {fs : DskM.Files} (sc : List Int), Clean fs → DskM.startF fs sc = fs
  | [], _, _ => rfl
  | p :: fs, sc, h => by
    obtain ⟨h1, h2⟩ := h p (by simp)
    unfold DskM.startF
    rw [if_pos h1, if_pos (by omega), start_clean sc fun q hq => h q (List.mem_cons_of_mem _ hq)]
theorem Rn.sta {nm : RdM.Bs} {i : Nat} {L : Lg} {s : DskM.St} (h : Rn nm i L s) (sc : List Int) : Rn nm i L (DskM.staO (DskM.craO s) sc) := by
  have e : DskM.staO (DskM.craO s) sc = { s with down := false, lim := false, left := 0 } := by
    rw [sta_down rfl]
    show ({ s with fs := DskM.startF s.fs sc, down := false, lim := false, left := 0 } : DskM.St) = _
    rw [start_clean sc h.cl]
  rw [e]
  exact ⟨h.ok, h.br, ⟨h.on.holds, h.on.tail⟩, ⟨h.good.inc, h.good.syn, h.good.nam, h.good.cnt, h.good.use, h.good.cap, Int.le_refl 0, by show (0 : Int) ≤ _; omega⟩, rfl, rfl, h.cap, h.tot, h.pr, h.num, h.cnt, h.us, h.cl⟩
def op4 (v : Value) : Value := .agg #[sl1 (nth v 0), .int .i64 (vZ (nth v 1)), .slice none 0 0, .bool true]
theorem mopen4 {σ : World} {F : List Res} {v : Value} : FnT Try.prog σ F 39 [st4 v] [] (fun u ρ => u = op4 v ∧ ρ = []) := mopen_any
theorem ms_opn {P1 : PS} {P2 : PX} {v : Value} {L : Lg} (h : MS P1 P2 (st4 v) L) : MS P1 P2 (op4 v) (openL L) := by
  obtain ⟨a, c, p, cp, Y, hm⟩ := h
  have := hm.val
  unfold st4 sl1 at this
  simp only [Value.agg.injEq, Array.mk.injEq, List.cons.injEq, Value.slice.injEq, Value.int.injEq, true_and, and_true] at this
  obtain ⟨⟨e1, e2, e3⟩, e4, _⟩ := this
  unfold op4 sl1
  rw [e1, e2, e3, e4]
  exact ⟨a, c, none, 0, Y, rfl, hm.inx, hm.ins, .inl ⟨rfl, rfl, rfl⟩, hm.rel⟩
end Go.Proofs.Ytcbigmgakdanjaa
namespace Go.Proofs.Ytcbigmgakdanjaa
open Go Go.SL Go.RowKit Go.RdM Go.WalM
set_option linter.unusedVariables false
set_option linter.unusedSimpArgs false
def qt (s : DskM.St) : DskM.St := { s with lim := false }
theorem Rn.st {nm : RdM.Bs} {i : Nat} {L : Lg} {s t : DskM.St} (h : Rn nm i L s) (hf : t.fs = s.fs) (hc : t.cap = s.cap) (hd : t.down = false) (hl : t.lim = false) (h0 : 0 ≤ t.left ∧ t.left ≤ 9223372036854775807) : Rn nm i L t :=
  ⟨h.ok, h.br, ⟨by rw [hf]; exact h.on.holds, fun x S y hS => by rw [hf]; exact h.on.tail x S y hS⟩, ⟨by rw [hf]; exact h.good.inc, by rw [hf]; exact h.good.syn, by rw [hf]; exact h.good.nam, by rw [hf]; exact h.good.cnt, by rw [hf, hc]; exact h.good.use, by rw [hc]; exact h.good.cap, h0.1, h0.2⟩, hd, hl, hc.trans h.cap, h.tot, h.pr, h.num, by rw [hf]; exact h.cnt, by rw [hf]; exact h.us, by rw [hf]; exact h.cl⟩
theorem Rn.opn0 {nm : RdM.Bs} {i : Nat} {L : Lg} {s : DskM.St} (h : Rn nm i L s) : Rn nm i (openL L) s := ⟨⟨h.ok.seg, fun r hr => by simp [openL] at hr, by simp [openL], h.ok.sz⟩, rfl, ⟨h.on.holds, fun hh => by simp [openL] at hh⟩, h.good, h.dn, h.lm, h.cap, by have := h.tot; show L.first + (allR L.segs).length + 0 ≤ _; omega, fun r hr => by simp [openL] at hr, fun x hx => by have := h.num x hx; omega, by have := h.cnt; omega, by have := h.us; show _ + 48 * 0 ≤ _; omega, h.cl⟩
theorem good_qt {s : DskM.St} : DskM.Good (qt s) ↔ DskM.Good s := ⟨fun h => ⟨h.inc, h.syn, h.nam, h.cnt, h.use, h.cap, h.lo, h.hi⟩, fun h => ⟨h.inc, h.syn, h.nam, h.cnt, h.use, h.cap, h.lo, h.hi⟩⟩
theorem oper_or (s : DskM.St) (h : 0 ≤ s.left ∧ s.left ≤ 9223372036854775807) : (∃ l, DskM.oper s = (true, { s with left := l }) ∧ 0 ≤ l ∧ l ≤ 9223372036854775807) ∨ DskM.oper s = (false, { s with down := true }) := by
  unfold DskM.oper
  split
  · split
    · exact .inr rfl
    · exact .inl ⟨s.left - 1, rfl, by omega, by omega⟩
  · exact .inl ⟨s.left, rfl, h.1, h.2⟩
theorem com_gen {nm : RdM.Bs} {i : Nat} {L : Lg} {s : DskM.St} (h : Rn nm i L (qt s)) (hi : i ≤ 100) (hnm : DskM.nameB nm = true ∧ nm.length ≤ 48) :
    (∃ s', comO nm L s = ((((lastN (commitL L) : Nat) : Int), 0), commitL L, s') ∧ Rn nm (i + 1) (commitL L) (qt s'))
    ∨ (L.pend ≠ [] ∧ ∃ s', comO nm L s = ((0, 27), { L with broken := true }, s') ∧ s'.down = true ∧ s'.fs = (DskM.grown s (fileN nm (nextN L.segs L.fresh)) (encG (lastN L + 1) L.pend)).fs ∧ s'.cap = s.cap ∧ DskM.Good s') := by
  by_cases hp : L.pend = []
  · exact .inl ⟨s, by rw [commitL_nil hp]; exact com_none h.br hp, by rw [commitL_nil hp]; exact h.mono⟩
  · have hn := inR_file hnm (nextN L.segs L.fresh)
    have hg := good_qt.1 h.good
    have hd : s.down = false := h.dn
    have hrd := ready_ok hd hn
    have ht := h.tot
    have hu : DskM.used s.fs + 48 * L.pend.length ≤ 84 * i := h.us
    have hpo := h.ok.seg.pos
    have hes := encG_sum (f := lastN L + 1) (g := L.pend) ⟨hp, h.ok.pl, h.ok.pc⟩ (by unfold lastN; omega)
    have hsm := sum_le h.pr
    have hcnt : s.fs.length ≤ i := h.cnt
    have hcap : s.cap = 262144 := h.cap
    obtain ⟨s0, e0, hR0⟩ := h.com hi hnm
    have hq := com_q (nm := nm) (s := qt s) hnm h.good h.dn h.lm h.br hp (by show s.fs.length < 256; omega) (by show (DskM.used s.fs + _ : Int) ≤ s.cap; omega)
    rw [hq] at e0
    simp only [Prod.mk.injEq, true_and] at e0
    subst e0
    obtain ⟨k, hk⟩ : ∃ k, k = fileN nm (nextN L.segs L.fresh) := ⟨_, rfl⟩
    obtain ⟨x, hx⟩ : ∃ x, x = encG (lastN L + 1) L.pend := ⟨_, rfl⟩
    have hap := app_done (s := s) (n := k) (d := x) (by rw [hk]; exact hrd) (fun hh => by have := hh.2; omega) (by rw [hx]; omega)
    have hgA := hg.app k x
    rw [← hk, ← hx] at hR0 ⊢
    rcases oper_or (DskM.grown s k x) ⟨hg.lo, hg.hi⟩ with ⟨l, h1, h2⟩ | h1
    · rw [h1, if_pos rfl] at hap
      rw [hap] at hgA
      dsimp only at hgA
      obtain ⟨s1, hs1⟩ : ∃ s1 : DskM.St, s1 = { DskM.grown s k x with left := l } := ⟨_, rfl⟩
      rw [← hs1] at hap hgA
      have hf : DskM.find s1.fs k = some { (DskM.find s.fs k).getD DskM.zeroF with data := oldD s k ++ x } := by
        rw [hs1]
        show DskM.find (DskM.setS s.fs k _) k = _
        rw [DskM.find_set hg.inc, if_pos rfl]; rfl
      have hr1 : ¬ DskM.readyE s1 [k] ≠ 0 := ready_ok (by rw [hs1]; exact hd) (by rw [hk]; exact hn)
      have hgS := hgA.syn_ k
      rcases oper_or s1 ⟨hgA.lo, hgA.hi⟩ with ⟨l2, h3, h4⟩ | h3
      · have hsy := syn_done hr1 hf (by rw [h3])
        rw [h3] at hsy
        refine .inl ⟨{ s1 with left := l2, fs := DskM.setS s1.fs k ⟨oldD s k ++ x, (oldD s k ++ x).length, true⟩ }, ?_, ?_⟩
        · unfold comO
          rw [if_neg (by simp [h.br]), if_neg hp, ← hk, ← hx, hap]
          dsimp only
          rw [hsy, if_neg (by simp), if_neg (by simp)]
        · refine hR0.st ?_ ?_ ?_ rfl h4
          · rw [hs1]
            show DskM.setS (DskM.setS s.fs k _) k _ = _
            rw [set_two hg.inc]; rfl
          · rw [hs1]; rfl
          · rw [hs1]; exact hd
      · have hsy : DskM.synO s1 k = (27, { s1 with down := true }) := by
          unfold DskM.synO
          rw [if_neg hr1, hf]
          dsimp only
          rw [h3]; rfl
        rw [hsy] at hgS
        refine .inr ⟨hp, { s1 with down := true }, ?_, rfl, by rw [hs1], by rw [hs1]; rfl, hgS⟩
        unfold comO
        rw [if_neg (by simp [h.br]), if_neg hp, ← hk, ← hx, hap]
        dsimp only
        rw [hsy, if_neg (by simp), if_pos (by simp)]
        simp
    · rw [h1, if_neg (by simp)] at hap
      rw [hap] at hgA
      refine .inr ⟨hp, { DskM.grown s k x with down := true }, ?_, rfl, rfl, rfl, hgA⟩
      unfold comO
      rw [if_neg (by simp [h.br]), if_neg hp, ← hk, ← hx, hap, if_pos (by simp)]
      simp
theorem find_lt {fs : DskM.Files} {k : RdM.Bs} (h : ∀ p ∈ fs, k < p.1) : DskM.find fs k = none := by
  cases hf : DskM.find fs k with
  | none => rfl
  | some f => exact absurd (h _ (DskM.find_mem hf)) (by simp)
theorem take_cut {a b : RdM.Bs} (j : Nat) : (a ++ b).take (a.length + j) = a ++ b.take j := by rw [List.take_append, List.take_of_length_le (by omega)]; simp
theorem start_set (k x : RdM.Bs) : ∀ {fs : DskM.Files} (sc : List Int), DskM.Inc fs → Clean fs →
    (DskM.find fs k = none → DskM.startF (DskM.setS fs k { DskM.zeroF with data := DskM.zeroF.data ++ x }) sc = fs) ∧
    (∀ f, DskM.find fs k = some f → ∃ j, j ≤ x.length ∧ DskM.startF (DskM.setS fs k { f with data := f.data ++ x }) sc = DskM.setS fs k ⟨f.data ++ x.take j, (f.data ++ x.take j).length, true⟩)
  | [], sc, hi, hc => ⟨fun _ => rfl, fun f hf => by simp [DskM.find_nil] at hf⟩
  | p :: l, sc, hi, hc => by
    obtain ⟨hi1, hi2⟩ := List.pairwise_cons.1 hi
    have hcl : Clean l := fun q hq => hc q (List.mem_cons_of_mem _ hq)
    obtain ⟨hp1, hp2⟩ := hc p (by simp)
    by_cases h1 : k < p.1
    · have hno : DskM.find (p :: l) k = none := find_lt fun q hq => by
        rcases List.mem_cons.1 hq with rfl | hq
        · exact h1
        · exact List.lt_trans h1 (hi1 q hq)
      refine ⟨fun _ => ?_, fun f hf => by rw [hno] at hf; simp at hf⟩
      unfold DskM.setS
      rw [if_pos h1]
      unfold DskM.startF
      rw [if_neg (by simp [DskM.zeroF]), start_clean sc hc]
    · by_cases h2 : k = p.1
      · have hfd : DskM.find (p :: l) k = some p.2 := by rw [DskM.find_cons, if_pos h2]
        refine ⟨fun hf => by rw [hfd] at hf; simp at hf, fun f hf => ?_⟩
        rw [hfd] at hf
        simp only [Option.some.injEq] at hf
        subst hf
        have hse : ∀ g, DskM.setS (p :: l) k g = (k, g) :: l := fun g => by rw [DskM.setS, if_neg h1, if_pos h2]
        simp only [hse]
        unfold DskM.startF
        rw [if_pos hp1]
        by_cases hx : x.length = 0
        · have : x = [] := List.eq_nil_of_length_eq_zero hx
          subst this
          refine ⟨0, Nat.le_refl _, ?_⟩
          rw [if_pos (by dsimp only; rw [List.append_nil]; omega), start_clean sc hcl]
          simp only [List.append_nil, List.take_nil]
          rw [← hp2, ← hp1]
        · rw [if_neg (by dsimp only; rw [List.length_append]; omega), start_clean _ hcl]
          have hlen : (p.2.data ++ x).length - p.2.syn = x.length := by rw [List.length_append]; omega
          obtain ⟨j, hj⟩ : ∃ j, j = DskM.keep (sc.head?.getD 0) ((p.2.data ++ x).length - p.2.syn) := ⟨_, rfl⟩
          have hjl : j ≤ x.length := by
            rw [hj]
            have := (DskM.keep_spec (sc.head?.getD 0) ((p.2.data ++ x).length - p.2.syn)).2
            omega
          refine ⟨j, hjl, ?_⟩
          unfold DskM.cut
          dsimp only
          have hkj : DskM.keep (sc.head?.getD 0) ((p.2.data ++ x).length - p.2.syn) = j := hj.symm
          rw [hkj, hp2, take_cut, hp1, List.length_append, List.length_take, Nat.min_eq_left hjl]
      · obtain ⟨ih1, ih2⟩ := start_set k x (fs := l) sc hi2 hcl
        have hfd : DskM.find (p :: l) k = DskM.find l k := by rw [DskM.find_cons, if_neg h2]
        have hst : ∀ f, DskM.startF (DskM.setS (p :: l) k f) sc = p :: DskM.startF (DskM.setS l k f) sc := fun f => by
          conv => lhs; unfold DskM.setS
          rw [if_neg h1, if_neg h2]
          conv => lhs; unfold DskM.startF
          rw [if_pos hp1, if_pos (by omega)]
        constructor
        · intro hf
          rw [hst, ih1 (by rw [← hfd]; exact hf)]
        · intro f hf
          obtain ⟨j, hj, he⟩ := ih2 f (by rw [← hfd]; exact hf)
          refine ⟨j, hj, ?_⟩
          have hse : ∀ g, DskM.setS (p :: l) k g = p :: DskM.setS l k g := fun g => by rw [DskM.setS, if_neg h1, if_neg h2]
          rw [hst, he, hse]
theorem start_com {nm : RdM.Bs} {i : Nat} {L : Lg} {s s' : DskM.St} (h : Rn nm i L (qt s)) (hi : i ≤ 100) (hnm : DskM.nameB nm = true ∧ nm.length ≤ 48) (hp : L.pend ≠ []) (hd : s'.down = true) (hf : s'.fs = (DskM.grown s (fileN nm (nextN L.segs L.fresh)) (encG (lastN L + 1) L.pend)).fs) (hc : s'.cap = s.cap) (hg' : DskM.Good s') (sc : List Int) :
    ∃ M, (M = L ∨ M = commitL L) ∧ Rn nm (i + 1) (openL M) (DskM.staO s' sc) := by
  obtain ⟨n, hn⟩ : ∃ n, n = nextN L.segs L.fresh := ⟨_, rfl⟩
  obtain ⟨x, hx⟩ : ∃ x, x = encG (lastN L + 1) L.pend := ⟨_, rfl⟩
  have hg := good_qt.1 h.good
  have hgS := hg'.sta sc
  have hcl : Clean s.fs := h.cl
  have hst := sta_down (s := s') (sc := sc) hd
  rw [← hn, ← hx] at hf
  obtain ⟨ha, hb⟩ := start_set (fileN nm n) x sc hg.inc hcl
  rw [hf] at hst
  unfold DskM.grown at hst
  dsimp only at hst
  cases hfd : DskM.find s.fs (fileN nm n) with
  | none =>
    rw [hfd] at hst
    simp only [Option.getD_none] at hst
    rw [ha hfd] at hst
    exact ⟨L, .inl rfl, h.mono.opn0.st (by rw [hst]; rfl) (by rw [hst]; exact hc) (by rw [hst]) (by rw [hst]) (by rw [hst]; exact ⟨Int.le_refl 0, by show (0 : Int) ≤ _; omega⟩)⟩
  | some f =>
    obtain ⟨j, hj, he⟩ := hb f hfd
    rw [hfd] at hst
    simp only [Option.getD_some] at hst
    rw [he] at hst
    have hold : oldD s (fileN nm n) = f.data := by unfold oldD; rw [hfd]; rfl
    by_cases hjx : j = x.length
    · have hxt : x.take j = x := by rw [hjx]; exact List.take_length
      rw [hxt] at hst
      obtain ⟨s0, e0, hR0⟩ := h.com hi hnm
      have ht := h.tot
      have hu : DskM.used s.fs + 48 * L.pend.length ≤ 84 * i := h.us
      have hpo := h.ok.seg.pos
      have hes := encG_sum (f := lastN L + 1) (g := L.pend) ⟨hp, h.ok.pl, h.ok.pc⟩ (by unfold lastN; omega)
      have hsm := sum_le h.pr
      have hcnt : s.fs.length ≤ i := h.cnt
      have hcap : s.cap = 262144 := h.cap
      have hq := com_q (nm := nm) (s := qt s) hnm h.good h.dn h.lm h.br hp (by show s.fs.length < 256; omega) (by show (DskM.used s.fs + _ : Int) ≤ s.cap; omega)
      rw [hq] at e0
      simp only [Prod.mk.injEq, true_and] at e0
      subst e0
      exact ⟨commitL L, .inr rfl, hR0.opn0.st (by rw [hst, ← hn, ← hx]; unfold addD; dsimp only; rw [show oldD (qt s) (fileN nm n) = f.data from hold]; rfl) (by rw [hst]; exact hc) (by rw [hst]) (by rw [hst]) (by rw [hst]; exact ⟨Int.le_refl 0, by show (0 : Int) ≤ _; omega⟩)⟩
    · have hn1 := nextN_pos (fr := L.fresh) h.ok.seg
      have hle := nextN_le (fr := L.fresh) h.ok.seg.inc
      have hnx := nextN_lt' (fr := L.fresh) h.num
      rw [← hn] at hn1 hle hnx
      have hholds : Holds L.first L.segs (segsOf nm s.fs) := h.on.holds
      have hqle : ∀ q ∈ segsOf nm s.fs, q.1 ≤ n := fun q hq => by
        obtain ⟨y, h1, h2⟩ := holds_num hholds q hq
        rw [h2]; exact (hle y h1).1
      have hset := segs_set (nm := nm) (n := n) (f := ⟨f.data ++ x.take j, (f.data ++ x.take j).length, true⟩) ⟨hn1, by omega⟩ hg.inc hqle
      have hmem : (n, f) ∈ segsOf nm s.fs := mem_segs.2 ⟨hn1, by show n ≤ _; omega, DskM.find_mem hfd⟩
      obtain ⟨y, hy1, hy2⟩ := holds_num hholds _ hmem
      have hlast : ∃ S x0, L.segs = S ++ [x0] ∧ x0.num = n := by
        rcases List.eq_nil_or_concat L.segs with h0 | ⟨S, x0, h0⟩
        · rw [h0] at hy1; simp at hy1
        · rw [List.concat_eq_append] at h0
          refine ⟨S, x0, h0, ?_⟩
          have h3 := (hle x0 (by rw [h0]; simp)).1
          rw [h0] at hy1
          rcases List.mem_append.1 hy1 with h4 | h4
          · have := (List.pairwise_append.1 (h0 ▸ h.ok.seg.inc)).2.2 y h4 x0 (by simp)
            have h5 : n = y.num := hy2
            omega
          · rw [List.mem_singleton] at h4; rw [← h4]; exact hy2.symm
      obtain ⟨S, x0, hS, hx0⟩ := hlast
      have hfr : L.fresh = false := by
        cases hfr : L.fresh with
        | false => rfl
        | true =>
          rw [hfr, hS] at hn
          unfold nextN at hn
          rw [List.getLast?_concat] at hn
          simp at hn; omega
      obtain ⟨Q, q, hQ, hqd⟩ := h.on.tail hfr S x0 hS
      change segsOf nm s.fs = Q ++ [q] at hQ
      have hh := hholds
      rw [hS] at hh
      obtain ⟨Q', q', h1, h2, h3⟩ := holds_split hh
      rw [hQ] at h1
      obtain ⟨e1, e2⟩ := List.append_inj' h1 rfl
      subst e1
      have e3 : q = q' := by simpa using e2
      subst e3
      have hmem2 : (n, q.2) ∈ segsOf nm s.fs := by rw [hQ]; rw [← hx0, ← h3]; simp
      have hqf : q.2 = f := by
        have := find_seg hg.inc hmem2
        rw [hfd] at this
        exact (Option.some.inj this).symm
      have hfil : (segsOf nm s.fs).filter (fun q => decide (q.1 ≠ n)) = Q := by
        rw [hQ, List.filter_append]
        have e1 : Q.filter (fun q => decide (q.1 ≠ n)) = Q := by
          rw [List.filter_eq_self]
          intro y hy
          obtain ⟨z, hz1, hz2⟩ := holds_num h2 y hy
          have := (List.pairwise_append.1 (hS ▸ h.ok.seg.inc)).2.2 z hz1 x0 (by simp)
          exact decide_eq_true (by omega)
        rw [e1, List.filter_cons, if_neg (by simp [h3, hx0])]; simp
      rw [hfil] at hset
      have hf2 : lastN L + 1 = L.first + (allR S).length + x0.recs.length := by
        have := h.ok.seg.pos
        unfold lastN
        rw [hS, allR_app, allR_one, List.length_append]; omega
      have hH : Holds L.first L.segs (segsOf nm (DskM.setS s.fs (fileN nm n) ⟨f.data ++ x.take j, (f.data ++ x.take j).length, true⟩)) := by
        rw [hset, hS]
        refine holds_snoc h2 hx0.symm ⟨x.take j, .inr ⟨L.pend, j, ⟨hp, h.ok.pl, h.ok.pc⟩, ?_, ?_⟩, ?_⟩
        · rw [← hf2, ← hx]; omega
        · rw [← hf2, ← hx]
        · rw [← hqf, hqd]
      have hu : DskM.used s.fs + 48 * L.pend.length ≤ 84 * i := h.us
      have hes := encG_sum (f := lastN L + 1) (g := L.pend) ⟨hp, h.ok.pl, h.ok.pc⟩ (by have := h.tot; have := h.ok.seg.pos; unfold lastN; omega)
      have hsm := sum_le h.pr
      have hus := DskM.used_set (k := fileN nm n) (f := ⟨f.data ++ x.take j, (f.data ++ x.take j).length, true⟩) hg.inc
      have hls := DskM.len_set (k := fileN nm n) (f := ⟨f.data ++ x.take j, (f.data ++ x.take j).length, true⟩) hg.inc
      rw [hfd, if_neg (by simp)] at hls
      have hlo : DskM.lenOf s.fs (fileN nm n) = f.data.length := by unfold DskM.lenOf; rw [hfd]
      rw [hlo] at hus
      dsimp only at hus
      have hdl : (f.data ++ x.take j).length = f.data.length + j := by rw [List.length_append, List.length_take, Nat.min_eq_left hj]
      have hus2 : DskM.used (DskM.setS s.fs (fileN nm n) ⟨f.data ++ x.take j, (f.data ++ x.take j).length, true⟩) ≤ DskM.used s.fs + j := by omega
      rw [← hx] at hes
      have hcnt : s.fs.length ≤ i := h.cnt
      have ht := h.tot
      have hfsS : (DskM.staO s' sc).fs = DskM.setS s.fs (fileN nm n) ⟨f.data ++ x.take j, (f.data ++ x.take j).length, true⟩ := by rw [hst]
      refine ⟨L, .inl rfl, ⟨h.opn0.ok, rfl, ⟨by rw [hfsS]; exact hH, fun hh => by simp [openL] at hh⟩, hgS, by rw [hst], by rw [hst], by rw [hst]; show s'.cap = _; rw [hc]; exact h.cap, h.mono.opn0.tot, h.opn0.pr, h.mono.opn0.num, by rw [hfsS, hls]; omega, ?_, ?_⟩⟩
      · rw [hfsS]; show _ + 48 * 0 ≤ _; omega
      · rw [hfsS]
        intro p hp2
        rcases mem_set' hp2 with rfl | hp2
        · exact ⟨rfl, rfl⟩
        · exact hcl p hp2
def TrF (nm : RdM.Bs) (f : Nat) (S : List Sg) (s : DskM.St) (j : Nat) (s' : DskM.St) : Prop := OkS (f + (allR (S.take j)).length) (S.drop j) ∧ Holds (f + (allR (S.take j)).length) (S.drop j) (segsOf nm s'.fs) ∧ segsOf nm s'.fs = (segsOf nm s.fs).drop j ∧ DskM.Good s' ∧ Clean s'.fs ∧ s'.cap = s.cap ∧ DskM.used s'.fs ≤ DskM.used s.fs ∧ s'.fs.length ≤ s.fs.length
theorem TrF.zero {nm : RdM.Bs} {f : Nat} {S : List Sg} {s s' : DskM.St} (h1 : OkS f S) (h2 : Holds f S (segsOf nm s.fs)) (h3 : DskM.Good s') (h6 : Clean s.fs) (hf : s'.fs = s.fs) (hc : s'.cap = s.cap) : TrF nm f S s 0 s' :=
  ⟨by simpa [allR] using h1, by rw [hf]; simpa [allR] using h2, by rw [hf]; rfl, h3, by rw [hf]; exact h6, hc, by rw [hf]; exact Nat.le_refl _, by rw [hf]; exact Nat.le_refl _⟩
theorem trunc_gen {nm : RdM.Bs} {n : Int} (hnm : DskM.nameB nm = true ∧ nm.length ≤ 48) : ∀ {S : List Sg} {f : Nat} {s : DskM.St}, OkS f S → Holds f S (segsOf nm s.fs) → DskM.Good s → s.down = false → Clean s.fs →
    ∃ e j s', (e = 0 ∧ j = trS f S n S.length ∧ s'.down = false ∨ e = 27 ∧ j ≤ trS f S n S.length ∧ s'.down = true) ∧ truncG nm f S n s = (e, f + (allR (S.take j)).length, S.drop j, s') ∧ TrF nm f S s j s'
  | [], f, s, h1, h2, h3, h4, h6 => ⟨0, 0, s, .inl ⟨rfl, rfl, h4⟩, rfl, .zero h1 h2 h3 h6 rfl rfl⟩
  | [x], f, s, h1, h2, h3, h4, h6 => ⟨0, 0, s, .inl ⟨rfl, rfl, h4⟩, rfl, .zero h1 h2 h3 h6 rfl rfl⟩
  | x :: y :: l, f, s, h1, h2, h3, h4, h6 => by
    have hlen : (x :: y :: l).length = (y :: l).length + 1 := rfl
    rw [hlen, trS]
    by_cases hn : (f : Int) + x.recs.length - 1 ≤ n
    · rw [if_pos hn]
      obtain ⟨q, Q, hQ⟩ : ∃ q Q, segsOf nm s.fs = q :: Q := by
        cases hq : segsOf nm s.fs with
        | nil => rw [hq] at h2; exact h2.elim
        | cons q Q => exact ⟨q, Q, rfl⟩
      have hH := h2
      rw [hQ] at h2
      obtain ⟨hq1, _, hq3⟩ := h2
      have hxn := h1.num x (by simp)
      have hmem : (x.num, q.2) ∈ segsOf nm s.fs := by rw [hQ, ← hq1]; simp
      have hfd := find_seg h3.inc hmem
      have hrd := ready_ok h4 (inR_file hnm x.num)
      have hgr := h3.rem (fileN nm x.num)
      rcases oper_or s ⟨h3.lo, h3.hi⟩ with ⟨l0, ho, hl0⟩ | ho
      · have hrem := rem_done hrd hfd (by rw [ho])
        rw [ho] at hrem
        dsimp only at hrem
        rw [hrem] at hgr
        have hseg : segsOf nm (DskM.delS s.fs (fileN nm x.num)) = Q := by
          rw [segs_del hxn, hQ, List.filter_cons, if_neg (by simp [hq1]), List.filter_eq_self]
          intro z hz
          obtain ⟨t, ht1, ht2⟩ := holds_num hq3 z hz
          have := (List.pairwise_cons.1 h1.inc).1 t ht1
          exact decide_eq_true (by omega)
        have hud := DskM.used_del (k := fileN nm x.num) h3.inc
        have hld := DskM.len_del (k := fileN nm x.num) (fs := s.fs)
        obtain ⟨s1, hs1⟩ : ∃ s1 : DskM.St, s1 = { s with left := l0, fs := DskM.delS s.fs (fileN nm x.num) } := ⟨_, rfl⟩
        rw [← hs1] at hrem hgr
        have hf1 : s1.fs = DskM.delS s.fs (fileN nm x.num) := by rw [hs1]
        obtain ⟨e, j, s', hc, e1, t1, t2, t3, t4, t5, t6, t7, t8⟩ := trunc_gen hnm (n := n) (S := y :: l) (f := f + x.recs.length) (s := s1) (oks_tail h1 (by simp)) (by rw [hf1, hseg]; exact hq3) hgr (by rw [hs1]; exact h4) (fun p hp => by rw [hf1] at hp; exact h6 p (DskM.mem_delS hp).1)
        have hfst : f + (allR ((x :: y :: l).take (j + 1))).length = f + x.recs.length + (allR ((y :: l).take j)).length := by
          rw [List.take_succ_cons, allR_cons, List.length_append]; omega
        refine ⟨e, j + 1, s', ?_, ?_, ?_⟩
        · rcases hc with ⟨c1, c2, c3⟩ | ⟨c1, c2, c3⟩
          · exact .inl ⟨c1, by rw [c2], c3⟩
          · exact .inr ⟨c1, by omega, c3⟩
        · rw [truncG, if_pos hn, hrem, if_neg (by simp), e1, hfst, List.drop_succ_cons]
        · refine ⟨by rw [hfst, List.drop_succ_cons]; exact t1, by rw [hfst, List.drop_succ_cons]; exact t2, by rw [t3, hf1, hseg, hQ, List.drop_succ_cons], t4, t5, by rw [t6, hs1], ?_, ?_⟩
          · rw [hf1] at t7; omega
          · rw [hf1] at t8; omega
      · have hrem : DskM.remO s (fileN nm x.num) = (27, { s with down := true }) := by
          unfold DskM.remO
          rw [if_neg hrd, hfd]
          dsimp only
          rw [ho]; rfl
        rw [hrem] at hgr
        refine ⟨27, 0, { s with down := true }, .inr ⟨rfl, Nat.zero_le _, rfl⟩, ?_, .zero h1 hH hgr h6 rfl rfl⟩
        rw [truncG, if_pos hn, hrem, if_pos (by simp)]
        simp [allR]
    · rw [if_neg hn]
      refine ⟨0, 0, s, .inl ⟨rfl, rfl, h4⟩, by rw [truncG, if_neg hn]; simp [allR], .zero h1 h2 h3 h6 rfl rfl⟩
theorem tru_gen {nm : RdM.Bs} {i : Nat} {L : Lg} {s : DskM.St} (h : Rn nm i L (qt s)) (hnm : DskM.nameB nm = true ∧ nm.length ≤ 48) (n : Int) :
    ∃ e j s', (e = 0 ∧ j = trS L.first L.segs n L.segs.length ∧ s'.down = false ∨ e = 27 ∧ j ≤ trS L.first L.segs n L.segs.length ∧ s'.down = true) ∧ truncO nm L s n = (e, { dropL L j with broken := decide (e = 27) }, s') ∧ DskM.Good s' ∧ OkL (dropL L j) ∧ Rn nm (i + 1) (dropL L j) { s' with down := false, lim := false } := by
  obtain ⟨e, j, s', hc, e1, t1, t2, t3, t4, t5, t6, t7, t8⟩ := trunc_gen hnm (n := n) h.ok.seg (s := s) h.on.holds (good_qt.1 h.good) h.dn h.cl
  have hjl := trS_le L.segs.length L.first L.segs n
  have hj2 : j ≤ L.segs.length := by rcases hc with ⟨_, c, _⟩ | ⟨_, c, _⟩ <;> omega
  have hall : (allR (L.segs.take j)).length + (allR (L.segs.drop j)).length = (allR L.segs).length := by
    rw [← List.length_append, ← allR_app, List.take_append_drop]
  have ht := h.tot
  have hsz := h.ok.sz
  have hok : OkL (dropL L j) := ⟨t1, h.ok.pc, h.ok.pl, by show L.first + (allR (L.segs.take j)).length + (allR (L.segs.drop j)).length ≤ _; omega⟩
  refine ⟨e, j, s', hc, ?_, t4, hok, hok, h.br, ⟨t2, fun hf S x hS => ?_⟩, ⟨t4.inc, t4.syn, t4.nam, t4.cnt, t4.use, t4.cap, t4.lo, t4.hi⟩, rfl, rfl, t6.trans h.cap, by show L.first + (allR (L.segs.take j)).length + (allR (L.segs.drop j)).length + L.pend.length ≤ _; omega, h.pr, fun x hx => by have := h.num x (List.mem_of_mem_drop hx); omega, by have : s.fs.length ≤ i := h.cnt; show s'.fs.length ≤ _; omega, by have : DskM.used s.fs + 48 * L.pend.length ≤ 84 * i := h.us; show DskM.used s'.fs + 48 * L.pend.length ≤ _; omega, t5⟩
  · unfold truncO
    rw [if_neg (by simp [h.br]), e1]
    rfl
  · change L.segs.drop j = S ++ [x] at hS
    have hseg : L.segs = (L.segs.take j ++ S) ++ [x] := by rw [List.append_assoc, ← hS, List.take_append_drop]
    obtain ⟨Q, q, hQ, hqd⟩ := h.on.tail hf _ _ hseg
    change segsOf nm s.fs = Q ++ [q] at hQ
    have hql := holds_len h.on.holds
    change (segsOf nm s.fs).length = _ at hql
    have hQl : Q.length + 1 = L.segs.length := by rw [hQ] at hql; simpa using hql
    have hSl : j + S.length + 1 = L.segs.length := by
      have := congrArg List.length hS
      rw [List.length_drop, List.length_append, List.length_singleton] at this; omega
    refine ⟨Q.drop j, q, ?_, ?_⟩
    · show segsOf nm s'.fs = _
      rw [t3, hQ, List.drop_append_of_le_length (by omega)]
    · rw [hqd, allR_app, List.length_append, ← Nat.add_assoc]; rfl
end Go.Proofs.Ytcbigmgakdanjaa
