/- Contracts: the model of a disk: start (layer 26). Conditions: none. -/
import Derived.Test.YtjlbeakdgadpmaaD8
namespace Go.Proofs.Ytjlbeakdgadpmaa
open Go Go.SL Go.RowKit Go.DskM
set_option linter.unusedVariables false
set_option linter.unusedSimpArgs false
theorem tA51i : aggB Try.prog 51 4 = true := by kernel_rfl
theorem tF36_1i : fieldB Try.prog 36 1 1 = true := by kernel_rfl
theorem tF36_2i : fieldB Try.prog 36 2 2 = true := by kernel_rfl
theorem tF36_3i : fieldB Try.prog 36 3 3 = true := by kernel_rfl
theorem tF36_4i : fieldB Try.prog 36 4 4 = true := by kernel_rfl
theorem tF51_1i : fieldB Try.prog 51 1 1 = true := by kernel_rfl
theorem tF51_2i : fieldB Try.prog 51 2 2 = true := by kernel_rfl
theorem tF51_3i : fieldB Try.prog 51 3 3 = true := by kernel_rfl
theorem tL34_1i : zerosB Try.prog 34 51 4 1 = some [Value.string .empty, Value.string .empty, Value.int .i64 0, Value.bool false] := by kernel_rfl
theorem tN51i : (Try.prog.info? 51).bind (·.zero) = some (Value.agg #[Value.string .empty, Value.string .empty, Value.int .i64 0, Value.bool false]) := by kernel_rfl
theorem tO3i : oneB Try.prog 3 = true := by kernel_rfl
theorem tO34i : oneB Try.prog 34 = true := by kernel_rfl
theorem tO4i : oneB Try.prog 4 = true := by kernel_rfl
theorem tO9i : oneB Try.prog 9 = true := by kernel_rfl
theorem tP34i : appB Try.prog 34 51 4 48 = true := by kernel_rfl
theorem tS34i : sliceB Try.prog 34 51 4 = true := by kernel_rfl
theorem tS41i : sliceB Try.prog 41 3 1 = true := by kernel_rfl
theorem tZ3i : (Try.prog.info? 3).map (·.size) = some 1 := by kernel_rfl
theorem tZ34i : (Try.prog.info? 34).map (·.size) = some 1 := by kernel_rfl
theorem tZ4i : (Try.prog.info? 4).map (·.size) = some 1 := by kernel_rfl
theorem tZ51i : (Try.prog.info? 51).map (·.size) = some 4 := by kernel_rfl
theorem tZ9i : (Try.prog.info? 9).map (·.size) = some 1 := by kernel_rfl

theorem start_len (fs : Files) : ∀ sc, (startF fs sc).length ≤ fs.length := by
  induction fs with
  | nil => intro sc; simp [startF]
  | cons p l ih =>
    intro sc
    have h1 := ih sc
    have h2 := ih sc.tail
    unfold startF
    split
    · split <;> simp only [List.length_cons] <;> omega
    · simp only [List.length_cons]; omega
/-- What the model's start has done. -/
def MInv (fs : Files) (sc : List Int) (i j : Nat) (D : Files) : Prop := startF fs sc = D ++ startF (fs.drop i) (sc.drop j)
section
variable {fs : Files} {sc : List Int} {i j : Nat} {D : Files} {p : Bs × Fl}
theorem MInv.lost (h : MInv fs sc i j D) (hx : fs[i]? = some p) (hd : p.2.dur = false) : MInv fs sc (i + 1) j D := by
  unfold MInv at h ⊢
  rw [h, drop_at hx]
  conv => lhs; rhs; unfold startF
  rw [if_neg (by simp [hd])]
theorem MInv.same (h : MInv fs sc i j D) (hx : fs[i]? = some p) (hd : p.2.dur = true) (hz : p.2.data.length - p.2.syn = 0) : MInv fs sc (i + 1) j (D ++ [p]) := by
  unfold MInv at h ⊢
  rw [h, drop_at hx]
  conv => lhs; rhs; unfold startF
  rw [if_pos hd, if_pos hz]; simp
theorem MInv.cut_ {x : Int} (h : MInv fs sc i j D) (hx : fs[i]? = some p) (hd : p.2.dur = true) (hz : ¬ p.2.data.length - p.2.syn = 0) (hr : (sc.drop j).head?.getD 0 = x) : MInv fs sc (i + 1) (j + 1) (D ++ [(p.1, cut p.2 x)]) := by
  unfold MInv at h ⊢
  rw [h, drop_at hx]
  conv => lhs; rhs; unfold startF
  rw [if_pos hd, if_neg hz, hr, List.tail_drop]; simp
end
set_option maxHeartbeats 2000000 in
set_option maxRecDepth 100000 in
theorem sstart_any {σ : World} {F : List Res} {b : Nat} {s : St} {a : Option Addr} {m c : Nat} {a1 : Option Addr} {c1 : Nat} {sc : List Int} (hg : DskM.Good s) (hsc : Sl σ F SL.encZ 1 (.slice a1 sc.length c1) sc) :
    FnT Try.prog σ F 41 [.pointer (some ⟨b, 0, none⟩), .slice a1 sc.length c1] [(603, cel b (cellS s a m c) 36), (604, slW 51 encM 4 (.slice a m c) s.fs)] (fun u ρ => u = .tuple #[] ∧ NewS b (staO s sc) ρ) := by
  refine fn_of 90 Try.func41 rfl Try.ntmps41 rfl ?_
  have huse := hg.use
  have hcap := hg.cap
  have hcnt := hg.cnt
  have hscl := hsc.i64
  refine w_seq ?_
  refine w_seq ?_
  refine w_region ?_
  refine wl_det rfl rfl rfl (op_move rfl) ?_
  refine wl_det rfl rfl rfl (op_nilCheck rfl) ?_
  refine wl_det rfl rfl rfl (op_fieldAddr (off := 3) rfl tF36_3i) ?_
  refine wl_det rfl rfl rfl (op_load1 rfl tO4i (Ent.lab (l := 603) rfl (says_cel 3))) ?_
  refine wl_det rfl rfl rfl (op_not rfl) ?_
  refine wl_nil ?_
  refine st_tn ?_
  refine w_cond rfl (fun hc14 => ?_) (fun hc14 => ?_)
  · -- c14.t
    refine w_ret ?_
    refine st_tr ?_
    refine st_ret (vs := []) [603, 604] Try.results41 trivial rfl ?_
    refine ⟨[(603, _), (604, _)], rfl, ?_⟩
    rw [sta_up (by simpa using hc14)]; exact ⟨rfl, _, _, _, rfl⟩
  · -- c14.f
    have hdn : s.down = true := by simpa using hc14
    refine w_skip ?_
    refine st_tn ?_
    refine w_seq ?_
    refine w_region ?_
    refine wl_det rfl rfl rfl (op_assign rfl) ?_
    refine wl_nil ?_
    refine st_tn ?_
    refine w_seq ?_
    refine w_region ?_
    refine wl_det rfl rfl rfl (op_assign rfl) ?_
    refine wl_nil ?_
    refine st_tn ?_
    refine w_seq ?_
    refine w_seq ?_
    refine w_region ?_
    refine wl_det rfl rfl rfl (op_assign rfl) ?_
    refine wl_nil ?_
    refine st_tn ?_
    refine w_block ?_
    refine w_emp 4 (slO_nil 51 4) ?_
    refine w_loopQ (X := List (Bs × Fl) × Option Addr × Nat × Nat × Nat) (fun z => z.2.2.2.2 ≤ s.fs.length ∧ z.2.2.2.1 ≤ z.2.2.2.2 ∧ z.1.length ≤ z.2.2.2.2 ∧ MInv s.fs sc z.2.2.2.2 z.2.2.2.1 z.1) (fun z => [(4, .slice (z.2.1) (z.1).length (z.2.2.1)), (5, .int .i64 (z.2.2.2.1)), (6, .int .i64 (z.2.2.2.2))]) (fun z => [(4, slW 51 encM 4 (.slice (z.2.1) (z.1).length (z.2.2.1)) (z.1))]) (fun z => s.fs.length - z.2.2.2.2) (([], none, 0, 0, 0)) [(0, _), (1, _)] [(603, _), (604, _)] [4, 603, 604] rfl (rfl) (.cons rfl (.cons rfl (.cons rfl (.nil _)))) (.cons rfl (.cons rfl (.nil _))) (by
        try dsimp only
        exact ⟨Nat.zero_le _, Nat.le_refl _, Nat.le_refl _, rfl⟩) ?_
    rintro ⟨L, a_L, c_L, j, i⟩ ⟨hi, hji, hLi, hI⟩
    refine w_norm2 (by dsimp only [List.cons_append, List.nil_append]) (by dsimp only [List.cons_append, List.nil_append]) ?_
    try dsimp only at hi hji hLi hI ⊢
    refine w_seq ?_
    refine w_seq ?_
    refine w_region ?_
    refine wl_det rfl rfl rfl (op_move rfl) ?_
    refine wl_det rfl rfl rfl (op_move rfl) ?_
    refine wl_det rfl rfl rfl (op_nilCheck rfl) ?_
    refine wl_det rfl rfl rfl (op_fieldAddr (off := 1) rfl tF36_1i) ?_
    refine wl_det rfl rfl rfl (op_load1 rfl tO34i (Ent.lab (l := 603) rfl (says_cel 1))) ?_
    refine wl_det rfl rfl rfl (op_lenT rfl tS34i (Sl.ent (Sl.lab 604 rfl (by unfold maxLen; omega)))) ?_
    refine wl_det rfl rfl rfl (op_lss rfl rfl) ?_
    refine wl_nil ?_
    refine st_tn ?_
    refine w_cond_d rfl (fun hc21 => ?_) (fun hc21 => ?_)
    · -- c21.t
      obtain ⟨p, hx⟩ := getE (l := s.fs) (i := i) (by omega)
      have hpm := List.mem_of_getElem? hx
      have hsy : p.2.syn ≤ p.2.data.length := hg.syn p hpm
      have hpl : p.2.data.length ≤ used s.fs := le_used hpm
      refine w_skip ?_
      refine st_tn ?_
      refine w_seq ?_
      refine w_block ?_
      refine w_seq ?_
      refine w_region ?_
      refine wl_det rfl rfl rfl (op_move rfl) ?_
      refine wl_det rfl rfl rfl (op_nilCheck rfl) ?_
      refine wl_det rfl rfl rfl (op_fieldAddr (off := 1) rfl tF36_1i) ?_
      refine wl_det rfl rfl rfl (op_load1 rfl tO34i (Ent.lab (l := 603) rfl (says_cel 1))) ?_
      refine wl_det rfl rfl rfl (op_move rfl) ?_
      refine wl_det rfl rfl rfl (op_idx rfl rfl tS34i (Sl.ent (Sl.lab 604 rfl (by unfold maxLen; omega))) (by omega)) ?_
      refine wl_det rfl rfl rfl (op_ldxA rfl tA51i (Sl.lab 604 rfl (by unfold maxLen; omega)) (by assumption) (by rfl) (by rfl)) ?_
      refine wl_op [] rfl rfl rfl rfl (op_alloc (l := 7) tN51i) ?_
      rintro _ _ ⟨b7, rfl, rfl⟩
      refine wl_op0 [7] rfl rfl rfl (op_store rfl rfl tZ51i (by rfl) (by rfl) (by exact Nat.le_of_ble_eq_true rfl)) ?_
      rintro _ _ ⟨rfl, rfl⟩
      refine wl_nil ?_
      refine st_tn ?_
      refine w_seq ?_
      refine w_seq ?_
      refine w_region ?_
      refine wl_det rfl rfl rfl (op_fieldAddr (off := 3) rfl tF51_3i) ?_
      refine wl_det rfl rfl rfl (op_load1 rfl tO4i (Ent.lab (l := 7) rfl (says_cel 3))) ?_
      refine wl_det rfl rfl rfl (op_not rfl) ?_
      refine wl_nil ?_
      refine st_tn ?_
      refine w_cond rfl (fun hc33 => ?_) (fun hc33 => ?_)
      · -- c33.t
        refine w_exit ?_
        refine st_te ?_
        refine st_be ?_
        refine st_tn ?_
        refine w_region ?_
        refine wl_det rfl rfl rfl (op_move rfl) ?_
        refine wl_det rfl rfl rfl (op_add' rfl rfl (by omega)) ?_
        refine wl_det rfl rfl rfl (op_assign rfl) ?_
        refine wl_nil ?_
        refine st_roundQ (x := (L, a_L, c_L, j, i)) ((L, _, _, j, i + 1)) [4, 603, 604] rfl (rfl) (.cons rfl (.cons rfl (.cons rfl (.nil _)))) (.cons rfl (.cons rfl (.nil _))) (by
            try dsimp only
            exact ⟨by omega, by omega, by omega, hI.lost hx (by simpa using hc33)⟩) (by
            try dsimp only
            omega) 
      · -- c33.f
        refine w_skip ?_
        refine st_tn ?_
        refine w_seq ?_
        refine w_seq ?_
        refine w_region ?_
        refine wl_det rfl rfl rfl (op_fieldAddr (off := 1) rfl tF51_1i) ?_
        refine wl_det rfl rfl rfl (op_load1 rfl tO9i (Ent.lab (l := 7) rfl (says_cel 1))) ?_
        refine wl_det rfl rfl rfl (op_lenBs rfl Try.underlying9) ?_
        refine wl_det rfl rfl rfl (op_fieldAddr (off := 2) rfl tF51_2i) ?_
        refine wl_det rfl rfl rfl (op_load1 rfl tO3i (Ent.lab (l := 7) rfl (says_cel 2))) ?_
        refine wl_det rfl rfl rfl (op_val (v' := .int .i64 ((p.2.data.length - p.2.syn : Nat) : Int)) (by congr 1; omega) (op_sub' rfl rfl (by omega))) ?_
        refine wl_det rfl rfl rfl (op_assign rfl) ?_
        refine wl_nil ?_
        refine st_tn ?_
        refine w_seq ?_
        refine w_region ?_
        refine wl_det rfl rfl rfl (op_move rfl) ?_
        refine wl_det rfl rfl rfl (op_gtr rfl rfl) ?_
        refine wl_nil ?_
        refine st_tn ?_
        refine w_cond_d rfl (fun hc41 => ?_) (fun hc41 => ?_)
        · -- c41.t
          refine w_seq ?_
          refine w_region ?_
          refine wl_det rfl rfl rfl (op_assign rfl) ?_
          refine wl_nil ?_
          refine st_tn ?_
          refine w_seq ?_
          refine w_seq ?_
          refine w_region ?_
          refine wl_det rfl rfl rfl (op_move rfl) ?_
          refine wl_det rfl rfl rfl (op_move rfl) ?_
          refine wl_det rfl rfl rfl (op_lenT rfl tS41i (Sl.ent (by first | exact Sl.app (by assumption) _ | exact Sl.app (Sl.app (by assumption) _) _))) ?_
          refine wl_det rfl rfl rfl (op_lss rfl rfl) ?_
          refine wl_nil ?_
          refine st_tn ?_
          refine w_cond_d rfl (fun hc45 => ?_) (fun hc45 => ?_)
          · -- c45.t
            obtain ⟨x, hx0⟩ := getE (l := sc) (i := j) (by omega)
            have hhd : (sc.drop j).head?.getD 0 = x := by rw [List.head?_drop, hx0]; rfl
            have hks := keep_spec x (p.2.data.length - p.2.syn)
            refine w_region ?_
            refine wl_det rfl rfl rfl (op_move rfl) ?_
            refine wl_det rfl rfl rfl (op_move rfl) ?_
            refine wl_det rfl rfl rfl (op_idx rfl rfl tS41i (Sl.ent (by first | exact Sl.app (by assumption) _ | exact Sl.app (Sl.app (by assumption) _) _)) (by omega)) ?_
            refine wl_det rfl rfl rfl (op_ldx rfl tO3i (by first | exact Sl.app (by assumption) _ | exact Sl.app (Sl.app (by assumption) _) _) (by assumption) (by rfl)) ?_
            refine wl_det rfl rfl rfl (op_move rfl) ?_
            refine wl_det rfl rfl rfl (op_add' rfl rfl (by omega)) ?_
            refine wl_det rfl rfl rfl (op_rem rfl rfl (by omega)) ?_
            refine wl_det rfl rfl rfl (op_assign rfl) ?_
            refine wl_nil ?_
            refine st_tn ?_
            refine w_seq ?_
            refine w_seq ?_
            refine w_region ?_
            refine wl_det rfl rfl rfl (op_move rfl) ?_
            refine wl_det rfl rfl rfl (op_lss rfl rfl) ?_
            refine wl_nil ?_
            refine st_tn ?_
            refine w_cond_d rfl (fun hc54 => ?_) (fun hc54 => ?_)
            · -- c54.t
              have hkk : ((keep x (p.2.data.length - p.2.syn) : Nat) : Int) = x.tmod (((p.2.data.length - p.2.syn : Nat) : Int) + 1) + (((p.2.data.length - p.2.syn : Nat) : Int) + 1) := by rw [hks.1, if_pos hc54]
              have hkl2 := hks.2
              refine w_region ?_
              refine wl_det rfl rfl rfl (op_move rfl) ?_
              refine wl_det rfl rfl rfl (op_move rfl) ?_
              refine wl_det rfl rfl rfl (op_add' rfl rfl (by omega)) ?_
              refine wl_det rfl rfl rfl (op_add' rfl rfl (by omega)) ?_
              refine wl_det rfl rfl rfl (op_assign rfl) ?_
              refine wl_nil ?_
              refine st_tn ?_
              refine w_seq ?_
              refine w_region ?_
              refine wl_det rfl rfl rfl (op_move rfl) ?_
              refine wl_det rfl rfl rfl (op_add' rfl rfl (by omega)) ?_
              refine wl_det rfl rfl rfl (op_assign rfl) ?_
              refine wl_nil ?_
              refine st_tn ?_
              refine w_seq ?_
              refine w_region ?_
              refine wl_det rfl rfl rfl (op_fieldAddr (off := 1) rfl tF51_1i) ?_
              refine wl_det rfl rfl rfl (op_load1 rfl tO9i (Ent.lab (l := 7) rfl (says_cel 1))) ?_
              refine wl_det rfl rfl rfl (op_fieldAddr (off := 2) rfl tF51_2i) ?_
              refine wl_det rfl rfl rfl (op_load1 rfl tO3i (Ent.lab (l := 7) rfl (says_cel 2))) ?_
              refine wl_det rfl rfl rfl (op_move rfl) ?_
              refine wl_det rfl rfl rfl (op_val (v' := .int .i64 ((p.2.syn + keep x (p.2.data.length - p.2.syn) : Nat) : Int)) (by congr 1; omega) (op_add' rfl rfl (by omega))) ?_
              refine wl_det rfl rfl rfl (op_sliceRBs rfl rfl Try.underlying9 (by omega)) ?_
              refine wl_det rfl rfl rfl (op_fieldAddr (off := 1) rfl tF51_1i) ?_
              refine wl_op0 [7] rfl rfl rfl (op_store rfl rfl tZ9i (by rfl) (by rfl) (by exact Nat.le_of_ble_eq_true rfl)) ?_
              rintro _ _ ⟨rfl, rfl⟩
              refine wl_nil ?_
              refine st_tn ?_
              refine w_region ?_
              refine wl_det rfl rfl rfl (op_fieldAddr (off := 1) rfl tF51_1i) ?_
              refine wl_det rfl rfl rfl (op_load1 rfl tO9i (Ent.lab (l := 7) rfl (says_cel 1))) ?_
              refine wl_det rfl rfl rfl (op_val (v' := .int .i64 ((p.2.syn + keep x (p.2.data.length - p.2.syn) : Nat) : Int)) (by rw [List.length_take]; congr 1; omega) (op_lenBs rfl Try.underlying9)) ?_
              refine wl_det rfl rfl rfl (op_fieldAddr (off := 2) rfl tF51_2i) ?_
              refine wl_op0 [7] rfl rfl rfl (op_store rfl rfl tZ3i (by rfl) (by rfl) (by exact Nat.le_of_ble_eq_true rfl)) ?_
              rintro _ _ ⟨rfl, rfl⟩
              refine wl_nil ?_
              refine st_tn ?_
              refine w_region ?_
              refine wl_det rfl rfl rfl (op_move rfl) ?_
              refine wl_det rfl rfl rfl (op_loadA rfl tA51i (Ent.lab (l := 7) rfl (says_cel 0)) (Nat.le_of_ble_eq_true rfl)) ?_
              refine wl_op [] rfl rfl rfl rfl (op_buildSlice (enc := encM) (l := [(p.1, cut p.2 x)]) (lab := 75) tL34_1i rfl rfl (fun _ => rfl) rfl) ?_
              rintro _ _ ⟨a75, c75, rfl, rfl⟩
              refine wl_op [4] rfl rfl rfl rfl (op_append (lab := 4) (lab' := 76) rfl rfl tP34i enc1M (Sl.lab 75 rfl (by simp [maxLen])) (by simp; omega) (by simp; omega)) ?_
              rintro _ _ ⟨a76, c76, rfl, rfl⟩
              refine wl_det rfl rfl rfl (op_assign rfl) ?_
              refine wl_nil ?_
              refine st_bn ?_
              refine st_tn ?_
              refine w_region ?_
              refine wl_det rfl rfl rfl (op_move rfl) ?_
              refine wl_det rfl rfl rfl (op_add' rfl rfl (by omega)) ?_
              refine wl_det rfl rfl rfl (op_assign rfl) ?_
              refine wl_nil ?_
              refine st_roundQ (x := (L, a_L, c_L, j, i)) ((L ++ [(p.1, cut p.2 x)], _, _, j + 1, i + 1)) [76, 603, 604] rfl (rfl) (.cons rfl (.cons rfl (.cons rfl (.nil _)))) (.cons rfl (.cons rfl (.nil _))) (by
                  try dsimp only
                  exact ⟨by omega, by omega, by simp; omega, hI.cut_ hx (by simpa using hc33) (by omega) hhd⟩) (by
                  try dsimp only
                  omega) 
            · -- c54.f
              have hkk : ((keep x (p.2.data.length - p.2.syn) : Nat) : Int) = x.tmod (((p.2.data.length - p.2.syn : Nat) : Int) + 1) := by rw [hks.1, if_neg hc54]
              have hkl2 := hks.2
              refine w_skip ?_
              refine st_tn ?_
              refine w_seq ?_
              refine w_region ?_
              refine wl_det rfl rfl rfl (op_move rfl) ?_
              refine wl_det rfl rfl rfl (op_add' rfl rfl (by omega)) ?_
              refine wl_det rfl rfl rfl (op_assign rfl) ?_
              refine wl_nil ?_
              refine st_tn ?_
              refine w_seq ?_
              refine w_region ?_
              refine wl_det rfl rfl rfl (op_fieldAddr (off := 1) rfl tF51_1i) ?_
              refine wl_det rfl rfl rfl (op_load1 rfl tO9i (Ent.lab (l := 7) rfl (says_cel 1))) ?_
              refine wl_det rfl rfl rfl (op_fieldAddr (off := 2) rfl tF51_2i) ?_
              refine wl_det rfl rfl rfl (op_load1 rfl tO3i (Ent.lab (l := 7) rfl (says_cel 2))) ?_
              refine wl_det rfl rfl rfl (op_move rfl) ?_
              refine wl_det rfl rfl rfl (op_val (v' := .int .i64 ((p.2.syn + keep x (p.2.data.length - p.2.syn) : Nat) : Int)) (by congr 1; omega) (op_add' rfl rfl (by omega))) ?_
              refine wl_det rfl rfl rfl (op_sliceRBs rfl rfl Try.underlying9 (by omega)) ?_
              refine wl_det rfl rfl rfl (op_fieldAddr (off := 1) rfl tF51_1i) ?_
              refine wl_op0 [7] rfl rfl rfl (op_store rfl rfl tZ9i (by rfl) (by rfl) (by exact Nat.le_of_ble_eq_true rfl)) ?_
              rintro _ _ ⟨rfl, rfl⟩
              refine wl_nil ?_
              refine st_tn ?_
              refine w_region ?_
              refine wl_det rfl rfl rfl (op_fieldAddr (off := 1) rfl tF51_1i) ?_
              refine wl_det rfl rfl rfl (op_load1 rfl tO9i (Ent.lab (l := 7) rfl (says_cel 1))) ?_
              refine wl_det rfl rfl rfl (op_val (v' := .int .i64 ((p.2.syn + keep x (p.2.data.length - p.2.syn) : Nat) : Int)) (by rw [List.length_take]; congr 1; omega) (op_lenBs rfl Try.underlying9)) ?_
              refine wl_det rfl rfl rfl (op_fieldAddr (off := 2) rfl tF51_2i) ?_
              refine wl_op0 [7] rfl rfl rfl (op_store rfl rfl tZ3i (by rfl) (by rfl) (by exact Nat.le_of_ble_eq_true rfl)) ?_
              rintro _ _ ⟨rfl, rfl⟩
              refine wl_nil ?_
              refine st_tn ?_
              refine w_region ?_
              refine wl_det rfl rfl rfl (op_move rfl) ?_
              refine wl_det rfl rfl rfl (op_loadA rfl tA51i (Ent.lab (l := 7) rfl (says_cel 0)) (Nat.le_of_ble_eq_true rfl)) ?_
              refine wl_op [] rfl rfl rfl rfl (op_buildSlice (enc := encM) (l := [(p.1, cut p.2 x)]) (lab := 75) tL34_1i rfl rfl (fun _ => rfl) rfl) ?_
              rintro _ _ ⟨a75, c75, rfl, rfl⟩
              refine wl_op [4] rfl rfl rfl rfl (op_append (lab := 4) (lab' := 76) rfl rfl tP34i enc1M (Sl.lab 75 rfl (by simp [maxLen])) (by simp; omega) (by simp; omega)) ?_
              rintro _ _ ⟨a76, c76, rfl, rfl⟩
              refine wl_det rfl rfl rfl (op_assign rfl) ?_
              refine wl_nil ?_
              refine st_bn ?_
              refine st_tn ?_
              refine w_region ?_
              refine wl_det rfl rfl rfl (op_move rfl) ?_
              refine wl_det rfl rfl rfl (op_add' rfl rfl (by omega)) ?_
              refine wl_det rfl rfl rfl (op_assign rfl) ?_
              refine wl_nil ?_
              refine st_roundQ (x := (L, a_L, c_L, j, i)) ((L ++ [(p.1, cut p.2 x)], _, _, j + 1, i + 1)) [76, 603, 604] rfl (rfl) (.cons rfl (.cons rfl (.cons rfl (.nil _)))) (.cons rfl (.cons rfl (.nil _))) (by
                  try dsimp only
                  exact ⟨by omega, by omega, by simp; omega, hI.cut_ hx (by simpa using hc33) (by omega) hhd⟩) (by
                  try dsimp only
                  omega) 
          · -- c45.f
            obtain ⟨x, hx0⟩ : ∃ x : Int, x = 0 := ⟨0, rfl⟩
            have hhd : (sc.drop j).head?.getD 0 = x := by rw [List.head?_drop, List.getElem?_eq_none (by omega), hx0]; rfl
            have hks := keep_spec x (p.2.data.length - p.2.syn)
            have htm : x.tmod (((p.2.data.length - p.2.syn : Nat) : Int) + 1) = 0 := by rw [hx0, Int.zero_tmod]
            have hkk : ((keep x (p.2.data.length - p.2.syn) : Nat) : Int) = 0 := by rw [hks.1, htm]; rfl
            have hkl2 := hks.2
            refine w_skip ?_
            refine st_tn ?_
            refine w_seq ?_
            refine w_seq ?_
            refine w_region ?_
            refine wl_det rfl rfl rfl (op_move rfl) ?_
            refine wl_det rfl rfl rfl (op_lss rfl rfl) ?_
            refine wl_nil ?_
            refine st_tn ?_
            refine w_cond_d rfl (fun hc54 => ?_) (fun hc54 => ?_)
            · -- c54.t
              exact absurd hc54 (by omega)
            · -- c54.f
              refine w_skip ?_
              refine st_tn ?_
              refine w_seq ?_
              refine w_region ?_
              refine wl_det rfl rfl rfl (op_move rfl) ?_
              refine wl_det rfl rfl rfl (op_add' rfl rfl (by omega)) ?_
              refine wl_det rfl rfl rfl (op_assign rfl) ?_
              refine wl_nil ?_
              refine st_tn ?_
              refine w_seq ?_
              refine w_region ?_
              refine wl_det rfl rfl rfl (op_fieldAddr (off := 1) rfl tF51_1i) ?_
              refine wl_det rfl rfl rfl (op_load1 rfl tO9i (Ent.lab (l := 7) rfl (says_cel 1))) ?_
              refine wl_det rfl rfl rfl (op_fieldAddr (off := 2) rfl tF51_2i) ?_
              refine wl_det rfl rfl rfl (op_load1 rfl tO3i (Ent.lab (l := 7) rfl (says_cel 2))) ?_
              refine wl_det rfl rfl rfl (op_move rfl) ?_
              refine wl_det rfl rfl rfl (op_val (v' := .int .i64 ((p.2.syn + keep x (p.2.data.length - p.2.syn) : Nat) : Int)) (by congr 1; omega) (op_add' rfl rfl (by omega))) ?_
              refine wl_det rfl rfl rfl (op_sliceRBs rfl rfl Try.underlying9 (by omega)) ?_
              refine wl_det rfl rfl rfl (op_fieldAddr (off := 1) rfl tF51_1i) ?_
              refine wl_op0 [7] rfl rfl rfl (op_store rfl rfl tZ9i (by rfl) (by rfl) (by exact Nat.le_of_ble_eq_true rfl)) ?_
              rintro _ _ ⟨rfl, rfl⟩
              refine wl_nil ?_
              refine st_tn ?_
              refine w_region ?_
              refine wl_det rfl rfl rfl (op_fieldAddr (off := 1) rfl tF51_1i) ?_
              refine wl_det rfl rfl rfl (op_load1 rfl tO9i (Ent.lab (l := 7) rfl (says_cel 1))) ?_
              refine wl_det rfl rfl rfl (op_val (v' := .int .i64 ((p.2.syn + keep x (p.2.data.length - p.2.syn) : Nat) : Int)) (by rw [List.length_take]; congr 1; omega) (op_lenBs rfl Try.underlying9)) ?_
              refine wl_det rfl rfl rfl (op_fieldAddr (off := 2) rfl tF51_2i) ?_
              refine wl_op0 [7] rfl rfl rfl (op_store rfl rfl tZ3i (by rfl) (by rfl) (by exact Nat.le_of_ble_eq_true rfl)) ?_
              rintro _ _ ⟨rfl, rfl⟩
              refine wl_nil ?_
              refine st_tn ?_
              refine w_region ?_
              refine wl_det rfl rfl rfl (op_move rfl) ?_
              refine wl_det rfl rfl rfl (op_loadA rfl tA51i (Ent.lab (l := 7) rfl (says_cel 0)) (Nat.le_of_ble_eq_true rfl)) ?_
              refine wl_op [] rfl rfl rfl rfl (op_buildSlice (enc := encM) (l := [(p.1, cut p.2 x)]) (lab := 75) tL34_1i rfl rfl (fun _ => rfl) rfl) ?_
              rintro _ _ ⟨a75, c75, rfl, rfl⟩
              refine wl_op [4] rfl rfl rfl rfl (op_append (lab := 4) (lab' := 76) rfl rfl tP34i enc1M (Sl.lab 75 rfl (by simp [maxLen])) (by simp; omega) (by simp; omega)) ?_
              rintro _ _ ⟨a76, c76, rfl, rfl⟩
              refine wl_det rfl rfl rfl (op_assign rfl) ?_
              refine wl_nil ?_
              refine st_bn ?_
              refine st_tn ?_
              refine w_region ?_
              refine wl_det rfl rfl rfl (op_move rfl) ?_
              refine wl_det rfl rfl rfl (op_add' rfl rfl (by omega)) ?_
              refine wl_det rfl rfl rfl (op_assign rfl) ?_
              refine wl_nil ?_
              refine st_roundQ (x := (L, a_L, c_L, j, i)) ((L ++ [(p.1, cut p.2 x)], _, _, j + 1, i + 1)) [76, 603, 604] rfl (rfl) (.cons rfl (.cons rfl (.cons rfl (.nil _)))) (.cons rfl (.cons rfl (.nil _))) (by
                  try dsimp only
                  exact ⟨by omega, by omega, by simp; omega, hI.cut_ hx (by simpa using hc33) (by omega) hhd⟩) (by
                  try dsimp only
                  omega) 
        · -- c41.f
          refine w_skip ?_
          refine st_tn ?_
          refine w_region ?_
          refine wl_det rfl rfl rfl (op_move rfl) ?_
          refine wl_det rfl rfl rfl (op_loadA rfl tA51i (Ent.lab (l := 7) rfl (says_cel 0)) (Nat.le_of_ble_eq_true rfl)) ?_
          refine wl_op [] rfl rfl rfl rfl (op_buildSlice (enc := encM) (l := [p]) (lab := 75) tL34_1i rfl rfl (fun _ => rfl) rfl) ?_
          rintro _ _ ⟨a75, c75, rfl, rfl⟩
          refine wl_op [4] rfl rfl rfl rfl (op_append (lab := 4) (lab' := 76) rfl rfl tP34i enc1M (Sl.lab 75 rfl (by simp [maxLen])) (by simp; omega) (by simp; omega)) ?_
          rintro _ _ ⟨a76, c76, rfl, rfl⟩
          refine wl_det rfl rfl rfl (op_assign rfl) ?_
          refine wl_nil ?_
          refine st_bn ?_
          refine st_tn ?_
          refine w_region ?_
          refine wl_det rfl rfl rfl (op_move rfl) ?_
          refine wl_det rfl rfl rfl (op_add' rfl rfl (by omega)) ?_
          refine wl_det rfl rfl rfl (op_assign rfl) ?_
          refine wl_nil ?_
          refine st_roundQ (x := (L, a_L, c_L, j, i)) ((L ++ [p], _, _, j, i + 1)) [76, 603, 604] rfl (rfl) (.cons rfl (.cons rfl (.cons rfl (.nil _)))) (.cons rfl (.cons rfl (.nil _))) (by
              try dsimp only
              exact ⟨by omega, by omega, by simp; omega, hI.same hx (by simpa using hc33) (by omega)⟩) (by
              try dsimp only
              omega) 
    · -- c21.f
      refine w_exit ?_
      refine st_te ?_
      refine st_te ?_
      refine st_be ?_
      refine st_tn ?_
      refine w_region ?_
      refine wl_det rfl rfl rfl (op_move rfl) ?_
      refine wl_det rfl rfl rfl (op_move rfl) ?_
      refine wl_det rfl rfl rfl (op_move rfl) ?_
      refine wl_det rfl rfl rfl (op_move rfl) ?_
      refine wl_det rfl rfl rfl (op_move rfl) ?_
      refine wl_det rfl rfl rfl (op_nilCheck rfl) ?_
      refine wl_det rfl rfl rfl (op_fieldAddr (off := 1) rfl tF36_1i) ?_
      refine wl_op0 [603] rfl rfl rfl (op_store rfl rfl tZ34i (by rfl) (by rfl) (by exact Nat.le_of_ble_eq_true rfl)) ?_
      rintro _ _ ⟨rfl, rfl⟩
      refine wl_det rfl rfl rfl (op_nilCheck rfl) ?_
      refine wl_det rfl rfl rfl (op_fieldAddr (off := 2) rfl tF36_2i) ?_
      refine wl_op0 [603] rfl rfl rfl (op_store rfl rfl tZ4i (by rfl) (by rfl) (by exact Nat.le_of_ble_eq_true rfl)) ?_
      rintro _ _ ⟨rfl, rfl⟩
      refine wl_det rfl rfl rfl (op_nilCheck rfl) ?_
      refine wl_det rfl rfl rfl (op_fieldAddr (off := 4) rfl tF36_4i) ?_
      refine wl_op0 [603] rfl rfl rfl (op_store rfl rfl tZ3i (by rfl) (by rfl) (by exact Nat.le_of_ble_eq_true rfl)) ?_
      rintro _ _ ⟨rfl, rfl⟩
      refine wl_det rfl rfl rfl (op_nilCheck rfl) ?_
      refine wl_det rfl rfl rfl (op_fieldAddr (off := 3) rfl tF36_3i) ?_
      refine wl_op0 [603] rfl rfl rfl (op_store rfl rfl tZ4i (by rfl) (by rfl) (by exact Nat.le_of_ble_eq_true rfl)) ?_
      rintro _ _ ⟨rfl, rfl⟩
      refine wl_nil ?_
      refine st_end (vs := []) [603, 4] Try.results41 trivial rfl ?_
      refine ⟨[(603, _), (604, _)], rfl, ?_⟩
      rw [sta_down hdn]; refine ⟨rfl, a_L, L.length, c_L, ?_⟩
      have hfin : startF s.fs sc = L := by
        unfold MInv at hI; rw [hI, List.drop_of_length_le (by omega)]; simp [startF]
      rw [hfin]; rfl

end Go.Proofs.Ytjlbeakdgadpmaa
