/- Contracts: Clone and Equal of a disk as one thing; record, same (layer 27's model). The law Full (layer 27). Arguments of the laws of layer 27, opened. Conditions: none. -/
import Derived.Test.YtcbigmgakdanjaaOd
namespace Go.Proofs.Ytcbigmgakdanjaa
open Go Go.SL Go.RowKit Go.RdM Go.WalM
set_option linter.unusedVariables false
set_option linter.unusedSimpArgs false
theorem tF41_1wx : fieldB Try.prog 41 1 1 = true := by kernel_rfl
theorem tF41_2wx : fieldB Try.prog 41 2 2 = true := by kernel_rfl
theorem tM27wx : makeB Try.prog 27 5 1 = some (Value.int .u8 0) := by kernel_rfl
theorem tMixwx : Try.prog.follows .mixedOrders = true := by kernel_rfl
theorem tO5wx : oneB Try.prog 5 = true := by kernel_rfl
theorem tO9wx : oneB Try.prog 9 = true := by kernel_rfl
theorem tS27wx : sliceB Try.prog 27 5 1 = true := by kernel_rfl
theorem tS35wx : sliceB Try.prog 35 9 1 = true := by kernel_rfl

abbrev DkE (s : DskM.St) := {i : (Nat × DskM.Files) × (List Nat × Nat) // i.1.2.Perm s.fs}
theorem own_swap2 {σ : World} {r r' : Res} {F : List Res} {w : World} (h : SL.Own σ (r :: r' :: F) w) : SL.Own σ (r' :: r :: F) w := h.perm (List.Perm.swap _ _ _)
theorem dk_opensE {σ : World} (d : Nat) (s : DskM.St) : Opens σ [dkR d s] (DkE s) (fun i => [cel d (cellD s i.1.1.1) 90, mpE KL DskM.encF i.1.1.1 i.1.1.2 i.1.2.1 i.1.2.2]) := fun F w h => by
  obtain ⟨i, h1⟩ := dk_opens d s F w h
  have h2 := own_swap2 h1
  obtain ⟨bs, h3⟩ := own_ex h2
  obtain ⟨ck, h4⟩ := own_ex h3
  exact ⟨⟨(i.1, (bs, ck)), i.2⟩, own_swap2 h4⟩
theorem dk_closesE {σ : World} {d m : Nat} {s : DskM.St} {l : DskM.Files} {bs : List Nat} {ck : Nat} (h : l.Perm s.fs) : Closes σ [cel d (cellD s m) 90, mpE KL DskM.encF m l bs ck] [dkR d s] := fun F w hw => dk_closes h F w (own_swap2 ((own_swap2 hw).imp mpE_mp))
section
variable {σ : World} {F : List Res} {d d2 : Nat} {s t : DskM.St}
theorem dclone_c (lab lab2 : Nat) : FnT Try.prog σ F 20 [.pointer (some ⟨d, 0, none⟩)] [(lab, dkR d s)] (fun u ρ => ∃ bb, u = .pointer (some ⟨bb, 0, none⟩) ∧ ρ = [(lab, dkR d s), (lab2, dkR bb s)]) :=
  fn_oc (dk_opens d s) rfl (R := fun i => [(601, cel d (cellD s i.1.1) 90), (602, mp KL DskM.encF i.1.1 i.1.2)]) (fun i => rfl) (fun i => fn_ro _ (clone_any (s := s) (l := i.1.2) 701 702 (Ent.lab (l := 601) rfl (says_cel 0)) (Mr.lab 602 rfl)))
    fun i u ρ ⟨ρ0, ⟨bb, mm, h1, h3⟩, h2⟩ => ⟨_, ⟨bb, h1, rfl⟩, by
      rw [h2, h3]
      exact Closes.pm (List.perm_append_comm (l₁ := [cel bb (cellD s mm) 90, mp KL DskM.encF mm i.1.2]) (l₂ := [cel d (cellD s i.1.1) 90, mp KL DskM.encF i.1.1 i.1.2])) (Closes.app (dk_closes i.2) (dk_closes i.2))⟩
theorem dequal_c (lab lab2 : Nat) (hg1 : DskM.Good s) (hg2 : DskM.Good t) : FnT Try.prog σ F 22 [.pointer (some ⟨d, 0, none⟩), .pointer (some ⟨d2, 0, none⟩)] [(lab, dkR d s), (lab2, dkR d2 t)] (fun u ρ => u = .bool (decide (s = t)) ∧ ρ = [(lab, dkR d s), (lab2, dkR d2 t)]) :=
  fn_oc ((dk_opensE d s).app (dk_opens d2 t)) rfl (R := fun i => [(601, cel d (cellD s i.1.1.1.1) 90), (602, mpE KL DskM.encF i.1.1.1.1 i.1.1.1.2 i.1.1.2.1 i.1.1.2.2), (701, cel d2 (cellD t i.2.1.1) 90), (702, mp KL DskM.encF i.2.1.1 i.2.1.2)]) (fun i => rfl)
    (fun i => fn_ro _ (equal_any hg1 hg2 i.1.2 i.2.2 (Ent.lab (l := 601) rfl (says_cel 0)) (Ent.lab (l := 701) rfl (says_cel 0)) (Me.lab 602 rfl) (Mr.lab 702 rfl)))
    fun i u ρ ⟨ρ0, h1, h2⟩ => ⟨_, ⟨h1.1, rfl⟩, by
      rw [h2, h1.2]
      exact Closes.app (dk_closesE i.1.2) (dk_closes i.2.2)⟩
end
/-- The bytes of a record. -/
def recI (n : Int) (i : Nat) : RdM.Bs := (List.range i).map fun j => UInt8.ofNat (n.toNat + j)
def recB (z n : Int) : RdM.Bs := recI n (z % 40).toNat
theorem recI_len (n : Int) (i : Nat) : (recI n i).length = i := by unfold recI; simp
theorem recI_succ (n : Int) (i : Nat) : recI n (i + 1) = recI n i ++ [UInt8.ofNat (n.toNat + i)] := by unfold recI; rw [List.range_succ, List.map_append]; rfl
theorem rec_set {n : Int} {k i : Nat} (h : i < k) : (recI n i ++ List.replicate (k - i) (0 : UInt8)).set i (UInt8.ofNat (n.toNat + i)) = recI n (i + 1) ++ List.replicate (k - (i + 1)) 0 := by
  rw [List.set_append_right _ _ (by rw [recI_len]; omega), recI_len, Nat.sub_self, recI_succ, List.append_assoc]
  have : k - i = (k - (i + 1)) + 1 := by omega
  rw [this, List.replicate_succ]; rfl
set_option maxHeartbeats 1000000 in
set_option maxRecDepth 100000 in
theorem record_any {σ : World} {F : List Res} (k z n : Int) (hz : 0 ≤ z ∧ z ≤ 255) (hn : 0 ≤ n ∧ n ≤ 255) : FnT Try.prog σ F 19 [.agg #[.int .u8 k, .int .u8 z, .int .u8 n]] [] (fun u ρ => u = .string (str (recB z n)) ∧ ρ = []) := by
  refine fn_of 27 Try.func19 rfl Try.ntmps19 rfl ?_
  refine w_seq ?_
  refine w_region ?_
  refine wl_op [] rfl rfl rfl rfl (op_box (T := 41) (l := 1) rfl) ?_
  rintro _ _ ⟨b1, rfl, rfl⟩
  refine wl_det rfl rfl rfl (op_assign rfl) ?_
  refine wl_nil ?_
  refine st_tn ?_
  refine w_seq ?_
  obtain ⟨m, hm⟩ : ∃ m : Nat, m = (z % 40).toNat := ⟨_, rfl⟩
  refine w_region ?_
  refine wl_det rfl rfl rfl (op_fieldAddr (off := 1) rfl tF41_1wx) ?_
  refine wl_det rfl rfl rfl (op_load1 rfl tO5wx (Ent.lab (l := 1) rfl (says_cel 1))) ?_
  refine wl_det rfl rfl rfl (op_remN rfl rfl (by omega) (by omega)) ?_
  refine wl_det rfl rfl rfl (op_val (v' := .int .i64 (m : Int)) (by rw [hm, show ((z % 40).toNat : Int) = z % 40 by omega]) (op_convI64 rfl (by rw [Try.underlying5]; rfl) Try.underlying3 (by omega))) ?_
  refine wl_op [] rfl rfl rfl rfl (op_makeSlice (enc := encU) (a0 := 0) (lab := 9) rfl rfl tM27wx (fun _ => rfl) rfl rfl (by omega) (by unfold maxLen; omega)) ?_
  rintro _ _ ⟨a9, c9, rfl, rfl⟩
  refine wl_det rfl rfl rfl (op_assign rfl) ?_
  refine wl_nil ?_
  refine st_tn ?_
  refine w_seq ?_
  refine w_seq ?_
  refine w_region ?_
  refine wl_det rfl rfl rfl (op_assign rfl) ?_
  refine wl_nil ?_
  refine st_tn ?_
  refine w_block ?_
  refine w_loopQ (X := Nat × List UInt8) (fun z => z.1 ≤ m ∧ z.2 = recI n z.1 ++ List.replicate (m - z.1) 0) (fun z => [(4, .int .i64 (z.1))]) (fun z => [(9, slW 5 encU 1 (.slice a9 ((List.replicate m (0 : UInt8)).length) c9) (z.2))]) (fun z => m - z.1) ((0, List.replicate m 0)) [(1, _), (3, _)] [(1, _)] [9, 1] rfl (rfl) (.cons rfl (.nil _)) (.cons rfl (.cons rfl (.nil _))) (by
      try dsimp only
      exact ⟨Nat.zero_le _, by simp [recI]⟩) ?_
  rintro ⟨i, B⟩ ⟨hi, hB⟩
  refine w_norm2 (by dsimp only [List.cons_append, List.nil_append]) (by dsimp only [List.cons_append, List.nil_append]) ?_
  try dsimp only at hi hB ⊢
  refine w_seq ?_
  refine w_seq ?_
  have hBl : B.length = m := by rw [hB, List.length_append, recI_len, List.length_replicate]; omega
  refine w_region ?_
  refine wl_det rfl rfl rfl (op_move rfl) ?_
  refine wl_det rfl rfl rfl (op_move rfl) ?_
  refine wl_det rfl rfl rfl (op_lenT rfl tS27wx (Sl.ent (Sl.lab 9 rfl (by unfold maxLen; first | omega | (rw [List.length_replicate]; omega) | (rw [hBl]; omega))))) ?_
  refine wl_det rfl rfl rfl (op_lss rfl rfl) ?_
  refine wl_nil ?_
  refine st_tn ?_
  refine w_cond_d rfl (fun hc13 => ?_) (fun hc13 => ?_)
  · -- c13.t
    obtain ⟨x, hx⟩ := getE (l := B) (i := i) (by omega)
    refine w_skip ?_
    refine st_tn ?_
    refine w_seq ?_
    refine w_block ?_
    refine w_region ?_
    refine wl_det rfl rfl rfl (op_move rfl) ?_
    refine wl_det rfl rfl rfl (op_move rfl) ?_
    refine wl_det rfl rfl rfl (op_fieldAddr (off := 2) rfl tF41_2wx) ?_
    refine wl_det rfl rfl rfl (op_load1 rfl tO5wx (Ent.lab (l := 1) rfl (says_cel 2))) ?_
    refine wl_det rfl rfl rfl (op_convI64 rfl (by rw [Try.underlying5]; rfl) Try.underlying3 (by omega)) ?_
    refine wl_det rfl rfl rfl (op_move rfl) ?_
    refine wl_det rfl rfl rfl (op_add' rfl rfl (by omega)) ?_
    refine wl_det rfl rfl rfl (op_val (v' := .int .u8 ((UInt8.ofNat (n.toNat + i)).toNat : Int)) (by rw [show (n + (i : Int)).toNat = n.toNat + i by omega]) (op_convU rfl (by rw [Try.underlying3]; rfl) Try.underlying5 (by omega))) ?_
    refine wl_det rfl rfl rfl (op_idx rfl rfl tS27wx (Sl.ent (Sl.lab 9 rfl (by unfold maxLen; first | omega | (rw [List.length_replicate]; omega) | (rw [hBl]; omega)))) (by omega)) ?_
    refine wl_op0 [9] rfl rfl rfl (op_storeX (lab := 9) (j := 0) (b' := UInt8.ofNat (n.toNat + i)) rfl rfl tO5wx rfl rfl (by rfl) hx (by decide) (by rfl)) ?_
    rintro _ _ ⟨rfl, rfl⟩
    refine wl_nil ?_
    refine st_bn ?_
    refine st_tn ?_
    refine w_region ?_
    refine wl_det rfl rfl rfl (op_move rfl) ?_
    refine wl_det rfl rfl rfl (op_add' rfl rfl (by omega)) ?_
    refine wl_det rfl rfl rfl (op_assign rfl) ?_
    refine wl_nil ?_
    refine st_roundQ (x := (i, B)) ((i + 1, B.set i (UInt8.ofNat (n.toNat + i)))) [9, 1] rfl (rfl) (.cons rfl (.nil _)) (.cons rfl (.cons rfl (.nil _))) (by
        try dsimp only
        exact ⟨by omega, by rw [hB, rec_set (by omega)]⟩) (by
        try dsimp only
        omega) 
  · -- c13.f
    refine w_exit ?_
    refine st_te ?_
    refine st_te ?_
    refine st_be ?_
    refine st_tn ?_
    refine w_seq ?_
    refine w_region ?_
    refine wl_det rfl rfl rfl (op_move rfl) ?_
    refine wl_det rfl rfl rfl (op_bytesStr rfl Try.underlying27 Try.underlying5 Try.underlying9 (Sl.lab 9 rfl (by unfold maxLen; first | omega | (rw [List.length_replicate]; omega) | (rw [hBl]; omega)))) ?_
    refine wl_det rfl rfl rfl (op_assign rfl) ?_
    refine wl_nil ?_
    refine st_tn ?_
    refine w_ret ?_
    refine st_ret (vs := [_]) [] Try.results19 ⟨rfl, trivial⟩ rfl ?_
    refine ⟨_, rfl, ?_⟩
    have hfin : B = recB z n := by
      have h1 : i = m := by rw [hBl] at *; omega
      rw [hB, h1, Nat.sub_self]; unfold recB; rw [← hm]; simp
    rw [hfin]; exact ⟨rfl, rfl⟩

set_option maxHeartbeats 400000 in
set_option maxRecDepth 100000 in
theorem same_any {σ : World} {F : List Res} {p q : Option Addr} {c d : Nat} {a b : List RdM.Bs} (h : Sl σ F encT 1 (.slice p a.length c) a) (g : Sl σ F encT 1 (.slice q b.length d) b) :
    FnT Try.prog σ F 25 [.slice p a.length c, .slice q b.length d] [] (fun u ρ => u = .bool (decide (a = b)) ∧ ρ = []) := by
  refine fn_of 26 Try.func25 rfl Try.ntmps25 rfl ?_
  have hle := h.i64
  refine w_seq ?_
  refine w_region ?_
  refine wl_det rfl rfl rfl (op_assign rfl) ?_
  refine wl_nil ?_
  refine st_tn ?_
  refine w_seq ?_
  refine w_seq ?_
  refine w_region ?_
  refine wl_det rfl rfl rfl (op_move rfl) ?_
  refine wl_det rfl rfl rfl (op_lenT rfl tS35wx (Sl.ent (by first | exact Sl.app (by assumption) _ | exact Sl.app (Sl.app (by assumption) _) _))) ?_
  refine wl_det rfl rfl rfl (op_move rfl) ?_
  refine wl_det rfl rfl rfl (op_lenT rfl tS35wx (Sl.ent (by first | exact Sl.app (by assumption) _ | exact Sl.app (Sl.app (by assumption) _) _))) ?_
  refine wl_det rfl rfl rfl (op_neq rfl rfl) ?_
  refine wl_nil ?_
  refine st_tn ?_
  refine w_cond_d rfl (fun hc10 => ?_) (fun hc10 => ?_)
  · -- c10.t
    refine w_seq ?_
    refine w_region ?_
    refine wl_det rfl rfl rfl (op_assign rfl) ?_
    refine wl_nil ?_
    refine st_tn ?_
    refine w_ret ?_
    refine st_tr ?_
    refine st_ret (vs := [_]) [] Try.results25 ⟨rfl, trivial⟩ rfl ?_
    refine ⟨_, rfl, ?_⟩
    have hne : a ≠ b := fun e => by subst e; omega
    rw [decide_eq_false hne]; exact ⟨rfl, rfl⟩
  · -- c10.f
    refine w_skip ?_
    refine st_tn ?_
    refine w_seq ?_
    refine w_seq ?_
    refine w_region ?_
    refine wl_det rfl rfl rfl (op_assign rfl) ?_
    refine wl_nil ?_
    refine st_tn ?_
    refine w_block ?_
    refine w_loopQ (X := Nat) (fun z => z ≤ a.length ∧ a.take z = b.take z) (fun z => [(5, .int .i64 (z))]) (fun _ => []) (fun z => a.length - z) (0) [(0, _), (1, _)] [] [] rfl (rfl) (.cons rfl (.nil _)) (.cons rfl (.cons rfl (.nil _))) (by
        try dsimp only
        exact ⟨Nat.zero_le _, by simp⟩) ?_
    rintro i ⟨hi, ht⟩
    refine w_norm2 (by dsimp only [List.cons_append, List.nil_append]) (by dsimp only [List.cons_append, List.nil_append]) ?_
    try dsimp only at hi ht ⊢
    refine w_seq ?_
    refine w_seq ?_
    refine w_region ?_
    refine wl_det rfl rfl rfl (op_move rfl) ?_
    refine wl_det rfl rfl rfl (op_move rfl) ?_
    refine wl_det rfl rfl rfl (op_lenT rfl tS35wx (Sl.ent (by first | exact Sl.app (by assumption) _ | exact Sl.app (Sl.app (by assumption) _) _))) ?_
    refine wl_det rfl rfl rfl (op_lss rfl rfl) ?_
    refine wl_nil ?_
    refine st_tn ?_
    refine w_cond_d rfl (fun hc14 => ?_) (fun hc14 => ?_)
    · -- c14.t
      obtain ⟨x, hx⟩ := getE (l := a) (i := i) (by omega)
      obtain ⟨y, hy⟩ := getE (l := b) (i := i) (by omega)
      refine w_skip ?_
      refine st_tn ?_
      refine w_seq ?_
      refine w_block ?_
      refine w_seq ?_
      refine w_draw (D := [⟨17, [], [], [], _, false, [], []⟩, ⟨18, [], [], [], _, false, [], []⟩, ⟨19, [0, 1], [], [], _, false, [], []⟩, ⟨20, [2], [], [], _, false, [], []⟩, ⟨21, [], [], [], _, false, [], []⟩, ⟨22, [], [], [], _, false, [], []⟩, ⟨23, [4, 5], [], [], _, false, [], []⟩, ⟨24, [6], [], [], _, false, [], []⟩]) [] [0, 5, 1] [⟨17, [], [], false, [], []⟩, ⟨18, [], [], false, [], []⟩, ⟨19, [0, 1], [], false, [], []⟩, ⟨20, [2], [], false, [], []⟩, ⟨21, [], [], false, [], []⟩, ⟨22, [], [], false, [], []⟩, ⟨23, [4, 5], [], false, [], []⟩, ⟨24, [6], [], false, [], []⟩] tMixwx (by rfl) (by kernel_rfl) (by rfl) (by rfl)
          ⟨.plain rfl (by intro X; exact op_move rfl),
          ⟨.plain rfl (by intro X; exact op_move rfl),
          ⟨.plain rfl (by intro X; rintro _ _ ⟨rfl, rfl⟩ _ _ ⟨rfl, rfl⟩; exact op_idx rfl rfl tS35wx (Sl.ent (by first | exact Sl.app (by assumption) _ | exact Sl.app (Sl.app (by assumption) _) _)) (by omega)),
          ⟨.plain rfl (by intro X; rintro _ _ ⟨rfl, rfl⟩; exact op_ldx rfl tO9wx (by first | exact Sl.app (by assumption) _ | exact Sl.app (Sl.app (by assumption) _) _) (by assumption) (by rfl)),
          ⟨.plain rfl (by intro X; exact op_move rfl),
          ⟨.plain rfl (by intro X; exact op_move rfl),
          ⟨.plain rfl (by intro X; rintro _ _ ⟨rfl, rfl⟩ _ _ ⟨rfl, rfl⟩; exact op_idx rfl rfl tS35wx (Sl.ent (by first | exact Sl.app (by assumption) _ | exact Sl.app (Sl.app (by assumption) _) _)) (by omega)),
          ⟨.plain rfl (by intro X; rintro _ _ ⟨rfl, rfl⟩; exact op_ldx rfl tO9wx (by first | exact Sl.app (by assumption) _ | exact Sl.app (Sl.app (by assumption) _) _) (by assumption) (by rfl)),
          trivial⟩⟩⟩⟩⟩⟩⟩⟩ ?_
      rintro _ _ ⟨rfl, rfl⟩ _ _ ⟨rfl, rfl⟩ _ _ ⟨rfl, rfl⟩ _ _ ⟨rfl, rfl⟩ _ _ ⟨rfl, rfl⟩ _ _ ⟨rfl, rfl⟩ _ _ ⟨rfl, rfl⟩ _ _ ⟨rfl, rfl⟩
      refine wl_norm (e' := [(0, _), (1, _), (5, _), (20, _), (24, _)]) (.cons rfl (.cons rfl (.cons rfl (.cons rfl (.cons rfl (.nil _)))))) (by dsimp only [cond_false, cond_true, List.nil_append, List.cons_append]) ?_
      refine wl_det rfl rfl rfl (op_neBs rfl rfl) ?_
      refine wl_nil ?_
      refine st_tn ?_
      refine w_cond_d rfl (fun hc25 => ?_) (fun hc25 => ?_)
      · -- c25.t
        refine w_seq ?_
        refine w_region ?_
        refine wl_det rfl rfl rfl (op_assign rfl) ?_
        refine wl_nil ?_
        refine st_tn ?_
        refine w_ret ?_
        refine st_br ?_
        refine st_tr ?_
        refine st_tr ?_
        refine st_br ?_
        refine st_tr ?_
        refine st_ret (vs := [_]) [] Try.results25 ⟨rfl, trivial⟩ rfl ?_
        refine ⟨_, rfl, ?_⟩
        have hne : a ≠ b := fun e => by subst e; rw [hx] at hy; simp at hy; exact hc25 hy
        rw [decide_eq_false hne]; exact ⟨rfl, rfl⟩
      · -- c25.f
        have hxy : x = y := Classical.not_not.1 hc25
        refine w_skip ?_
        refine st_bn ?_
        refine st_tn ?_
        refine w_region ?_
        refine wl_det rfl rfl rfl (op_move rfl) ?_
        refine wl_det rfl rfl rfl (op_add' rfl rfl (by omega)) ?_
        refine wl_det rfl rfl rfl (op_assign rfl) ?_
        refine wl_nil ?_
        refine st_roundQ (x := i) (i + 1) [] rfl (rfl) (.cons rfl (.nil _)) (.cons rfl (.cons rfl (.nil _))) (by
            try dsimp only
            exact ⟨by omega, by rw [take_snoc hx, take_snoc hy, ht, hxy]⟩) (by
            try dsimp only
            omega) 
    · -- c14.f
      refine w_exit ?_
      refine st_te ?_
      refine st_te ?_
      refine st_be ?_
      refine st_tn ?_
      refine w_seq ?_
      refine w_region ?_
      refine wl_det rfl rfl rfl (op_assign rfl) ?_
      refine wl_nil ?_
      refine st_tn ?_
      refine w_ret ?_
      refine st_ret (vs := [_]) [] Try.results25 ⟨rfl, trivial⟩ rfl ?_
      refine ⟨_, rfl, ?_⟩
      have he : a = b := by rw [take_all (by omega), take_all (by omega)] at ht; exact ht
      rw [decide_eq_true he]; exact ⟨rfl, rfl⟩

end Go.Proofs.Ytcbigmgakdanjaa
namespace Go.Proofs.Ytcbigmgakdanjaa
open Go Go.SL Go.RowKit Go.RdM Go.WalM
set_option linter.unusedVariables false
set_option linter.unusedSimpArgs false
theorem tB41wy : placesB Try.prog 41 = some ([(0, 1), (1, 1), (2, 1)], [Value.int .u8 0, Value.int .u8 0, Value.int .u8 0]) := by kernel_rfl
theorem tL35_1wy : zerosB Try.prog 35 9 1 1 = some [Value.string .empty] := by kernel_rfl
theorem tMixwy : Try.prog.follows .mixedOrders = true := by kernel_rfl
theorem tO5wy : oneB Try.prog 5 = true := by kernel_rfl
theorem tP35wy : appB Try.prog 35 9 1 16 = true := by kernel_rfl
theorem tS27wy : sliceB Try.prog 27 5 1 = true := by kernel_rfl
theorem tS35wy : sliceB Try.prog 35 9 1 = true := by kernel_rfl

abbrev StD := DskM.St
theorem com_full {nm : RdM.Bs} {L : Lg} {s : DskM.St} (hnm : DskM.nameB nm = true ∧ nm.length ≤ 48) (hd : s.down = false) (hb : L.broken = false) (hp : L.pend ≠ []) (hc : s.fs.length < 256)
    (hu : s.cap < (DskM.used s.fs + (encG (lastN L + 1) L.pend).length : Int)) : comO nm L s = ((0, 28), L, s) := by
  have hn := inR_file hnm (nextN L.segs L.fresh)
  have ha := app_full (s := s) (n := fileN nm (nextN L.segs L.fresh)) (d := encG (lastN L + 1) L.pend) (ready_ok hd hn) (fun h => by have := h.2; omega) hu
  unfold comO
  rw [if_neg (by simp [hb]), if_neg hp, ha, if_pos (by simp)]
  obtain ⟨f, S, p, fr, b⟩ := L
  dsimp only at hb
  subst hb; rfl
theorem recB_len (z n : Int) : (recB z n).length ≤ 39 := by unfold recB; rw [recI_len]; omega
/-- What holds in between: the log, its disk, all records. -/
structure Fu (nm : RdM.Bs) (k : Nat) (L : Lg) (s : DskM.St) (all : List RdM.Bs) : Prop where
  ok : OkL L
  on : OnD nm L s
  good : DskM.Good s
  dn : s.down = false
  lm : s.lim = false
  br : L.broken = false
  pe : L.pend = []
  one : L.first = 1
  al : all = allR L.segs
  num : ∀ x ∈ L.segs, x.num ≤ k
  cnt : s.fs.length ≤ k
  len : all.length ≤ k
theorem nextN_lt {S : List Sg} {fr : Bool} {k : Nat} (h : ∀ x ∈ S, x.num ≤ k) : nextN S fr ≤ k + 1 := by
  rcases List.eq_nil_or_concat S with h0 | ⟨S', y, rfl⟩
  · subst h0; unfold nextN; simp
  · rw [List.concat_eq_append] at h ⊢
    have := h y (by simp)
    unfold nextN
    rw [List.getLast?_concat]
    dsimp only
    split <;> omega
theorem noteS_num {S : List Sg} {n k : Nat} {g : List RdM.Bs} (h : ∀ x ∈ S, x.num ≤ k) (hn : n ≤ k) : ∀ x ∈ noteS S n g, x.num ≤ k := fun x hx => by
  rcases noteS_mem hx with h1 | ⟨y, h1, h2, h3⟩ | h1
  · exact h x h1
  · subst h3; exact hn
  · subst h1; exact hn
theorem Fu.app {nm : RdM.Bs} {k : Nat} {L : Lg} {s : DskM.St} {all : List RdM.Bs} (h : Fu nm k L s all) {r : RdM.Bs} (hr : r.length ≤ 39) : appL L r = ((((all.length + 1 : Nat) : Int), 0), { L with pend := [r] }) ∧ OkL { L with pend := [r] } := by
  have h1 : lastN L = all.length := by unfold lastN; rw [h.one, h.al]; omega
  constructor
  · unfold appL
    rw [if_neg (by simp [h.br]), if_neg (by omega), if_neg (by rw [h.pe]; simp), h1, h.pe]; rfl
  · exact ⟨h.ok.seg, fun q hq => by simp at hq; subst hq; omega, by simp, h.ok.sz⟩
theorem Fu.com {nm : RdM.Bs} {k : Nat} {L : Lg} {s : DskM.St} {all : List RdM.Bs} (h : Fu nm k L s all) (hnm : DskM.nameB nm = true ∧ nm.length ≤ 48) (hk : k ≤ 100) {r : RdM.Bs} (hr : r.length ≤ 39) (hu : ¬ s.cap < (DskM.used s.fs + (encG (all.length + 1) [r]).length : Int)) :
    ∃ L2 s2, comO nm { L with pend := [r] } s = ((((all.length + 1 : Nat) : Int), 0), L2, s2) ∧ Fu nm (k + 1) L2 s2 (all ++ [r]) := by
  have h1 : lastN { L with pend := [r] } = all.length := by show lastN L = _; unfold lastN; rw [h.one, h.al]; omega
  have hnx := nextN_lt (fr := L.fresh) h.num
  have hsz : L.first + (allR L.segs).length ≤ 1000 := by rw [h.one, ← h.al]; have := h.len; omega
  obtain ⟨s1, hs1, e1, e2, e3, e4, e5, e6, e7, e8, e9⟩ := com_all (nm := nm) (L := { L with pend := [r] }) (s := s) (h.app hr).2 ⟨h.on.holds, h.on.tail⟩ h.good h.dn h.lm hnm h.br (by simp) (by show nextN L.segs L.fresh ≤ _; omega) (by have := h.cnt; omega) (by rw [h1]; show ((DskM.used s.fs : Int) + (encG (all.length + 1) [r]).length) ≤ _; omega) (by show L.first + (allR L.segs).length + 1 ≤ _; omega)
  have hcl := lastN_commit (L := { L with pend := [r] }) (by simp)
  have hall : allR (commitL { L with pend := [r] }).segs = all ++ [r] := by rw [hcl]; show allR (noteS L.segs _ [r]) = _; rw [noteS_all, h.al]
  have hfi : (commitL { L with pend := [r] }).first = 1 := by rw [hcl]; exact h.one
  refine ⟨_, _, ?_, ⟨e4, e3, e2, e5, e6, by rw [hcl]; exact h.br, by rw [hcl], hfi, hall.symm, ?_, by have := h.cnt; omega, by rw [List.length_append]; have := h.len; simp; omega⟩⟩
  · have h2 : lastN (commitL { L with pend := [r] }) = all.length + 1 := by unfold lastN; rw [hfi, hall, List.length_append]; simp
    rw [e1, h2]
  · rw [hcl]
    exact noteS_num (fun x hx => by have := h.num x hx; omega) hnx
theorem Fu.mono {nm : RdM.Bs} {k : Nat} {L : Lg} {s : DskM.St} {all : List RdM.Bs} (h : Fu nm k L s all) : Fu nm (k + 1) L s all := ⟨h.ok, h.on, h.good, h.dn, h.lm, h.br, h.pe, h.one, h.al, fun x hx => by have := h.num x hx; omega, by have := h.cnt; omega, by have := h.len; omega⟩
theorem fu_new (nm : RdM.Bs) {n : Int} (hn : 0 ≤ n ∧ n ≤ 67108864) : Fu nm 0 newL (newS n) [] := ⟨okl_new, onD_new nm n, good_new hn, rfl, rfl, rfl, rfl, rfl, rfl, fun x hx => by simp [newL] at hx, by simp [newS], by simp⟩
set_option maxHeartbeats 4000000 in
set_option maxRecDepth 100000 in
theorem lawFull_any {σ : World} {F : List Res} {a : Option Addr} {c : Nat} {sizes : List UInt8} (cp : Int) (hcp : 0 ≤ cp ∧ cp ≤ 65535) (h : Sl σ F encU 1 (.slice a sizes.length c) sizes) : FnT Try.prog σ F 4 [.int .u16 cp, .slice a sizes.length c] [] (fun u ρ => u = .bool true ∧ ρ = []) := by
  refine fn_of 133 Try.func4 rfl Try.ntmps4 rfl ?_
  have hle := h.i64
  refine w_seq ?_
  refine w_region ?_
  refine wl_det rfl rfl rfl (op_assign rfl) ?_
  refine wl_nil ?_
  refine st_tn ?_
  refine w_seq ?_
  refine w_region ?_
  refine wl_det rfl rfl rfl (op_move rfl) ?_
  refine wl_det rfl rfl rfl (op_remN rfl rfl (by omega) (by omega)) ?_
  refine wl_det rfl rfl rfl (op_convI64 rfl (by rw [Try.underlying38]; rfl) Try.underlying3 (by omega)) ?_
  refine wl_op [] rfl rfl rfl rfl (op_fn Try.func12 rfl rfl rfl (made_c 601 611 (cp % 401) [108, 111, 103] (by omega) name_log)) ?_
  rintro _ _ ⟨d23, b23, rfl, rfl⟩
  refine wl_det rfl rfl rfl (op_move rfl) ?_
  refine wl_det rfl rfl rfl (op_extract rfl rfl) ?_
  refine wl_det rfl rfl rfl (op_extract rfl rfl) ?_
  refine wl_det rfl rfl rfl (op_assign rfl) ?_
  refine wl_det rfl rfl rfl (op_assign rfl) ?_
  refine wl_nil ?_
  refine st_tn ?_
  refine w_seq ?_
  refine w_seq ?_
  refine w_region ?_
  refine wl_det rfl rfl rfl (op_fn Try.func13 rfl rfl rfl (known_any)) ?_
  refine wl_det rfl rfl rfl (op_not_t rfl) ?_
  refine wl_det rfl rfl rfl (op_move rfl) ?_
  refine wl_wanted_det rfl rfl rfl rfl rfl rfl rfl (op_move rfl) ?_
  refine wl_wanted_det rfl rfl rfl rfl rfl rfl rfl (op_val (v' := .bool false) (by rfl) (op_eqPtr rfl Try.underlying23)) ?_
  refine wl_det rfl rfl rfl (op_pick_f rfl rfl) ?_
  refine wl_det rfl rfl rfl (op_move rfl) ?_
  refine wl_wanted_det rfl rfl rfl rfl rfl rfl rfl (op_move rfl) ?_
  refine wl_wanted_det rfl rfl rfl rfl rfl rfl rfl (op_lenT rfl tS27wy (Sl.ent (by first | exact Sl.app (by assumption) _ | exact Sl.app (Sl.app (by assumption) _) _))) ?_
  refine wl_wanted_det rfl rfl rfl rfl rfl rfl rfl (op_gtr rfl rfl) ?_
  refine wl_det rfl rfl rfl (op_pick_f rfl rfl) ?_
  refine wl_nil ?_
  refine st_tn ?_
  refine w_cond_d rfl (fun hc36 => ?_) (fun hc36 => ?_)
  · -- c36.t
    refine w_seq ?_
    refine w_region ?_
    refine wl_det rfl rfl rfl (op_fn Try.func13 rfl rfl rfl (known_any)) ?_
    refine wl_det rfl rfl rfl (op_move rfl) ?_
    refine wl_wanted_det rfl rfl rfl rfl rfl rfl rfl (op_move rfl) ?_
    refine wl_wanted_det rfl rfl rfl rfl rfl rfl rfl (op_val (v' := .bool true) (by rfl) (op_nePtr rfl Try.underlying23)) ?_
    refine wl_det rfl rfl rfl (op_pick_t rfl rfl) ?_
    refine wl_det rfl rfl rfl (op_assign rfl) ?_
    refine wl_nil ?_
    refine st_tn ?_
    refine w_ret ?_
    refine st_tr ?_
    refine st_ret (vs := [_]) [] Try.results4 ⟨rfl, trivial⟩ rfl ?_
    refine ⟨_, rfl, ?_⟩
    exact ⟨rfl, rfl⟩
  · -- c36.f
    refine w_skip ?_
    refine st_tn ?_
    refine w_seq ?_
    refine w_region ?_
    refine wl_det rfl rfl rfl (op_assign rfl) ?_
    refine wl_nil ?_
    refine st_tn ?_
    refine w_seq ?_
    refine w_seq ?_
    refine w_region ?_
    refine wl_det rfl rfl rfl (op_assign rfl) ?_
    refine wl_nil ?_
    refine st_tn ?_
    refine w_block ?_
    refine w_emp 7 (slO_nil 9 1) ?_
    refine w_loopQ (X := List (List UInt8) × Option Addr × Nat × Nat × Lg × StD) (fun z => z.2.2.2.1 ≤ sizes.length ∧ Fu [108, 111, 103] z.2.2.2.1 z.2.2.2.2.1 z.2.2.2.2.2 z.1) (fun z => [(7, .slice (z.2.1) (z.1).length (z.2.2.1)), (8, .int .i64 (z.2.2.2.1))]) (fun z => [(7, slW 9 encT 1 (.slice (z.2.1) (z.1).length (z.2.2.1)) (z.1)), (601, dkR d23 (z.2.2.2.2.2)), (611, lgR b23 d23 [108, 111, 103] (z.2.2.2.2.1))]) (fun z => sizes.length - z.2.2.2.1) (([], none, 0, 0, newL, newS (cp % 401))) [(1, _), (5, _), (6, _)] [] [7, 601, 611] rfl (rfl) (.cons rfl (.cons rfl (.nil _))) (.cons rfl (.cons rfl (.cons rfl (.nil _)))) (by
        try dsimp only
        exact ⟨Nat.zero_le _, fu_new _ (by omega)⟩) ?_
    rintro ⟨all, a_all, c_all, i, L, s⟩ ⟨hi, hF⟩
    refine w_norm2 (by dsimp only [List.cons_append, List.nil_append]) (by dsimp only [List.cons_append, List.nil_append]) ?_
    try dsimp only at hi hF ⊢
    refine w_seq ?_
    refine w_seq ?_
    refine w_region ?_
    refine wl_det rfl rfl rfl (op_move rfl) ?_
    refine wl_det rfl rfl rfl (op_move rfl) ?_
    refine wl_det rfl rfl rfl (op_lenT rfl tS27wy (Sl.ent (by first | exact Sl.app (by assumption) _ | exact Sl.app (Sl.app (by assumption) _) _))) ?_
    refine wl_det rfl rfl rfl (op_lss rfl rfl) ?_
    refine wl_nil ?_
    refine st_tn ?_
    refine w_cond_d rfl (fun hc45 => ?_) (fun hc45 => ?_)
    · -- c45.t
      obtain ⟨z, hz⟩ := getE (l := sizes) (i := i) (by omega)
      have hzl := z.toNat_lt
      obtain ⟨r, hr⟩ : ∃ r, r = recB z.toNat z.toNat := ⟨_, rfl⟩
      have hrl : r.length ≤ 39 := by rw [hr]; exact recB_len _ _
      obtain ⟨happ, hokp⟩ := hF.app hrl
      have hal := hF.len
      refine w_skip ?_
      refine st_tn ?_
      refine w_seq ?_
      refine w_block ?_
      refine w_seq ?_
      refine w_draw (D := [⟨48, [], [], [], _, false, [], []⟩, ⟨49, [], [], [], _, false, [], []⟩, ⟨50, [0, 1], [], [], _, false, [], []⟩, ⟨51, [2], [], [], _, false, [], []⟩, ⟨52, [], [], [], _, false, [], []⟩, ⟨53, [], [], [], _, false, [], []⟩, ⟨54, [4, 5], [], [], _, false, [], []⟩, ⟨55, [6], [], [], _, false, [], []⟩]) [] [1, 8] [⟨48, [], [], false, [], []⟩, ⟨49, [], [], false, [], []⟩, ⟨50, [0, 1], [], false, [], []⟩, ⟨51, [2], [], false, [], []⟩, ⟨52, [], [], false, [], []⟩, ⟨53, [], [], false, [], []⟩, ⟨54, [4, 5], [], false, [], []⟩, ⟨55, [6], [], false, [], []⟩] tMixwy (by rfl) (by kernel_rfl) (by rfl) (by rfl)
          ⟨.plain rfl (by intro X; exact op_move rfl),
          ⟨.plain rfl (by intro X; exact op_move rfl),
          ⟨.plain rfl (by intro X; rintro _ _ ⟨rfl, rfl⟩ _ _ ⟨rfl, rfl⟩; exact op_idx rfl rfl tS27wy (Sl.ent (by first | exact Sl.app (by assumption) _ | exact Sl.app (Sl.app (by assumption) _) _)) (by omega)),
          ⟨.plain rfl (by intro X; rintro _ _ ⟨rfl, rfl⟩; exact op_ldx rfl tO5wy (by first | exact Sl.app (by assumption) _ | exact Sl.app (Sl.app (by assumption) _) _) (by assumption) (by rfl)),
          ⟨.plain rfl (by intro X; exact op_move rfl),
          ⟨.plain rfl (by intro X; exact op_move rfl),
          ⟨.plain rfl (by intro X; rintro _ _ ⟨rfl, rfl⟩ _ _ ⟨rfl, rfl⟩; exact op_idx rfl rfl tS27wy (Sl.ent (by first | exact Sl.app (by assumption) _ | exact Sl.app (Sl.app (by assumption) _) _)) (by omega)),
          ⟨.plain rfl (by intro X; rintro _ _ ⟨rfl, rfl⟩; exact op_ldx rfl tO5wy (by first | exact Sl.app (by assumption) _ | exact Sl.app (Sl.app (by assumption) _) _) (by assumption) (by rfl)),
          trivial⟩⟩⟩⟩⟩⟩⟩⟩ ?_
      rintro _ _ ⟨rfl, rfl⟩ _ _ ⟨rfl, rfl⟩ _ _ ⟨rfl, rfl⟩ _ _ ⟨rfl, rfl⟩ _ _ ⟨rfl, rfl⟩ _ _ ⟨rfl, rfl⟩ _ _ ⟨rfl, rfl⟩ _ _ ⟨rfl, rfl⟩
      refine wl_norm (e' := [(1, _), (5, _), (6, _), (7, _), (8, _), (51, _), (55, _)]) (.cons rfl (.cons rfl (.cons rfl (.cons rfl (.cons rfl (.cons rfl (.cons rfl (.nil _)))))))) (by dsimp only [cond_false, cond_true, List.nil_append, List.cons_append]) ?_
      refine wl_det rfl rfl rfl (op_build tB41wy rfl rfl) ?_
      refine wl_det rfl rfl rfl (op_fn Try.func19 rfl rfl rfl (record_any 0 z.toNat z.toNat (by omega) (by omega))) ?_
      refine wl_det rfl rfl rfl (op_assign rfl) ?_
      refine wl_nil ?_
      refine st_tn ?_
      refine w_seq ?_
      rw [← hr]
      refine w_region ?_
      refine wl_det rfl rfl rfl (op_move rfl) ?_
      refine wl_det rfl rfl rfl (op_move rfl) ?_
      refine wl_op [611] rfl rfl rfl rfl (op_fn Try.func14 rfl rfl rfl (lappend_to 611 happ hF.ok (by omega))) ?_
      rintro _ _ ⟨rfl, rfl⟩
      refine wl_det rfl rfl rfl (op_move rfl) ?_
      refine wl_det rfl rfl rfl (op_extract rfl rfl) ?_
      refine wl_det rfl rfl rfl (op_extract rfl rfl) ?_
      refine wl_det rfl rfl rfl (op_assign rfl) ?_
      refine wl_det rfl rfl rfl (op_assign rfl) ?_
      refine wl_nil ?_
      refine st_tn ?_
      refine w_seq ?_
      refine w_region ?_
      refine wl_det rfl rfl rfl (op_move rfl) ?_
      refine wl_op [601] rfl rfl rfl rfl (op_fn Try.func20 rfl rfl rfl (dclone_c 601 701)) ?_
      rintro _ _ ⟨b65, rfl, rfl⟩
      refine wl_det rfl rfl rfl (op_assign rfl) ?_
      refine wl_nil ?_
      refine st_tn ?_
      refine w_seq ?_
      by_cases hfull : s.cap < (DskM.used s.fs + (encG (all.length + 1) [r]).length : Int)
      · -- hfull+
        have hl1 : lastN { L with pend := [r] } = all.length := by show lastN L = _; unfold lastN; rw [hF.one, hF.al]; omega
        have hcom := com_full (nm := [108, 111, 103]) (L := { L with pend := [r] }) (s := s) name_log hF.dn hF.br (by simp) (by have := hF.cnt; omega) (by rw [hl1]; omega)
        have hdl : discL { L with pend := [r] } = L := by
          unfold discL
          rw [if_neg (by simp [hF.br])]
          have h1 := hF.pe
          obtain ⟨x1, x2, x3, x4, x5⟩ := L
          dsimp only at h1
          rw [h1]
        refine w_region ?_
        refine wl_det rfl rfl rfl (op_move rfl) ?_
        refine wl_op [601, 611] rfl rfl rfl rfl (op_fn Try.func15 rfl rfl rfl (commit_to 601 611 hcom hokp hF.good (by decide) (by have := nextN_lt (fr := L.fresh) hF.num; show nextN L.segs L.fresh ≤ _; omega))) ?_
        rintro _ _ ⟨rfl, rfl⟩
        refine wl_det rfl rfl rfl (op_move rfl) ?_
        refine wl_det rfl rfl rfl (op_extract rfl rfl) ?_
        refine wl_det rfl rfl rfl (op_extract rfl rfl) ?_
        refine wl_det rfl rfl rfl (op_assign rfl) ?_
        refine wl_det rfl rfl rfl (op_assign rfl) ?_
        refine wl_nil ?_
        refine st_tn ?_
        refine w_seq ?_
        refine w_seq ?_
        refine w_region ?_
        refine wl_det rfl rfl rfl (op_move rfl) ?_
        refine wl_det rfl rfl rfl (op_val (v' := .bool false) (by rfl) (op_neq rfl rfl)) ?_
        refine wl_det rfl rfl rfl (op_move rfl) ?_
        refine wl_wanted_det rfl rfl rfl rfl rfl rfl rfl (op_move rfl) ?_
        refine wl_wanted_det rfl rfl rfl rfl rfl rfl rfl (op_move rfl) ?_
        refine wl_wanted_det rfl rfl rfl rfl rfl rfl rfl (op_lenT rfl tS35wy (Sl.ent (Sl.lab 7 rfl (by first | (unfold maxLen; omega) | (unfold maxLen; simp; omega))))) ?_
        refine wl_wanted_det rfl rfl rfl rfl rfl rfl rfl (op_add' rfl rfl (by omega)) ?_
        refine wl_wanted_det rfl rfl rfl rfl rfl rfl rfl (op_val (v' := .bool false) (by rw [decide_eq_false (fun h => h (by omega))]) (op_neq rfl rfl)) ?_
        refine wl_det rfl rfl rfl (op_pick_f rfl rfl) ?_
        refine wl_nil ?_
        refine st_tn ?_
        refine w_cond_f (rfl) ?_
        refine w_skip ?_
        refine st_tn ?_
        refine w_seq ?_
        refine w_seq ?_
        refine w_region ?_
        refine wl_det rfl rfl rfl (op_move rfl) ?_
        refine wl_det rfl rfl rfl (op_val (v' := .bool true) (by rfl) (op_neq rfl rfl)) ?_
        refine wl_nil ?_
        refine st_tn ?_
        refine w_cond_t (rfl) ?_
        refine w_seq ?_
        refine w_seq ?_
        refine w_region ?_
        refine wl_det rfl rfl rfl (op_move rfl) ?_
        refine wl_det rfl rfl rfl (op_val (v' := .bool false) (by rfl) (op_neq rfl rfl)) ?_
        refine wl_det rfl rfl rfl (op_move rfl) ?_
        refine wl_wanted_det rfl rfl rfl rfl rfl rfl rfl (op_move rfl) ?_
        refine wl_wanted [611] rfl rfl rfl rfl rfl rfl rfl rfl (op_fn Try.func21 rfl rfl rfl (lpending_c (L := { L with pend := [r] }) 611 hokp)) ?_
        rintro _ _ ⟨rfl, rfl⟩
        refine wl_wanted_det rfl rfl rfl rfl rfl rfl rfl (op_val (v' := .bool false) (by simp [hF.br]) (op_neq rfl rfl)) ?_
        refine wl_det rfl rfl rfl (op_pick_f rfl rfl) ?_
        refine wl_det rfl rfl rfl (op_move rfl) ?_
        refine wl_wanted_det rfl rfl rfl rfl rfl rfl rfl (op_move rfl) ?_
        refine wl_wanted_det rfl rfl rfl rfl rfl rfl rfl (op_move rfl) ?_
        refine wl_wanted [601, 701] rfl rfl rfl rfl rfl rfl rfl rfl (op_fn Try.func22 rfl rfl rfl (fn_imp (dequal_c 601 701 hF.good hF.good) (fun u ρ hu => (⟨by rw [hu.1, decide_eq_true rfl], hu.2⟩ : u = .bool true ∧ ρ = [(601, dkR d23 s), (701, dkR b65 s)])))) ?_
        rintro _ _ ⟨rfl, rfl⟩
        refine wl_wanted_det rfl rfl rfl rfl rfl rfl rfl (op_not_t rfl) ?_
        refine wl_det rfl rfl rfl (op_pick_f rfl rfl) ?_
        refine wl_det rfl rfl rfl (op_move rfl) ?_
        refine wl_wanted_det rfl rfl rfl rfl rfl rfl rfl (op_move rfl) ?_
        refine wl_wanted [611] rfl rfl rfl rfl rfl rfl rfl rfl (op_fn Try.func23 rfl rfl rfl (ldiscard_c (L := { L with pend := [r] }) 611)) ?_
        rintro _ _ ⟨rfl, rfl⟩
        refine wl_wanted_det rfl rfl rfl rfl rfl rfl rfl (op_val (v' := .bool false) (by simp [hF.br]) (op_neq rfl rfl)) ?_
        refine wl_det rfl rfl rfl (op_pick_f rfl rfl) ?_
        refine wl_det rfl rfl rfl (op_move rfl) ?_
        refine wl_wanted_det rfl rfl rfl rfl rfl rfl rfl (op_move rfl) ?_
        refine wl_wanted_det rfl rfl rfl rfl rfl rfl rfl (op_val (v' := .bool false) (by rfl) (op_neq rfl rfl)) ?_
        refine wl_det rfl rfl rfl (op_pick_f rfl rfl) ?_
        refine wl_nil ?_
        refine st_tn ?_
        refine w_cond_f (rfl) ?_
        refine w_skip ?_
        refine st_tn ?_
        refine w_exit ?_
        refine st_te ?_
        refine st_be ?_
        refine st_tn ?_
        refine w_region ?_
        refine wl_det rfl rfl rfl (op_move rfl) ?_
        refine wl_det rfl rfl rfl (op_add' rfl rfl (by omega)) ?_
        refine wl_det rfl rfl rfl (op_assign rfl) ?_
        refine wl_nil ?_
        refine st_roundQ (x := (all, a_all, c_all, i, L, s)) ((all, a_all, c_all, i + 1, L, s)) [7, 601, 611] rfl (by rw [hdl]; rfl) (.cons rfl (.cons rfl (.nil _))) (.cons rfl (.cons rfl (.cons rfl (.nil _)))) (by
            try dsimp only
            exact ⟨by omega, hF.mono⟩) (by
            try dsimp only
            omega) 
      · -- hfull-
        obtain ⟨L2, s2, hcom, hF2⟩ := hF.com name_log (by omega) hrl hfull
        refine w_region ?_
        refine wl_det rfl rfl rfl (op_move rfl) ?_
        refine wl_op [601, 611] rfl rfl rfl rfl (op_fn Try.func15 rfl rfl rfl (commit_to 601 611 hcom hokp hF.good (by decide) (by have := nextN_lt (fr := L.fresh) hF.num; show nextN L.segs L.fresh ≤ _; omega))) ?_
        rintro _ _ ⟨rfl, rfl⟩
        refine wl_det rfl rfl rfl (op_move rfl) ?_
        refine wl_det rfl rfl rfl (op_extract rfl rfl) ?_
        refine wl_det rfl rfl rfl (op_extract rfl rfl) ?_
        refine wl_det rfl rfl rfl (op_assign rfl) ?_
        refine wl_det rfl rfl rfl (op_assign rfl) ?_
        refine wl_nil ?_
        refine st_tn ?_
        refine w_seq ?_
        refine w_seq ?_
        refine w_region ?_
        refine wl_det rfl rfl rfl (op_move rfl) ?_
        refine wl_det rfl rfl rfl (op_val (v' := .bool false) (by rfl) (op_neq rfl rfl)) ?_
        refine wl_det rfl rfl rfl (op_move rfl) ?_
        refine wl_wanted_det rfl rfl rfl rfl rfl rfl rfl (op_move rfl) ?_
        refine wl_wanted_det rfl rfl rfl rfl rfl rfl rfl (op_move rfl) ?_
        refine wl_wanted_det rfl rfl rfl rfl rfl rfl rfl (op_lenT rfl tS35wy (Sl.ent (Sl.lab 7 rfl (by first | (unfold maxLen; omega) | (unfold maxLen; simp; omega))))) ?_
        refine wl_wanted_det rfl rfl rfl rfl rfl rfl rfl (op_add' rfl rfl (by omega)) ?_
        refine wl_wanted_det rfl rfl rfl rfl rfl rfl rfl (op_val (v' := .bool false) (by rw [decide_eq_false (fun h => h (by omega))]) (op_neq rfl rfl)) ?_
        refine wl_det rfl rfl rfl (op_pick_f rfl rfl) ?_
        refine wl_nil ?_
        refine st_tn ?_
        refine w_cond_f (rfl) ?_
        refine w_skip ?_
        refine st_tn ?_
        refine w_seq ?_
        refine w_seq ?_
        refine w_region ?_
        refine wl_det rfl rfl rfl (op_move rfl) ?_
        refine wl_det rfl rfl rfl (op_val (v' := .bool false) (by rfl) (op_neq rfl rfl)) ?_
        refine wl_nil ?_
        refine st_tn ?_
        refine w_cond_f (rfl) ?_
        refine w_skip ?_
        refine st_tn ?_
        refine w_seq ?_
        refine w_region ?_
        refine wl_det rfl rfl rfl (op_move rfl) ?_
        refine wl_det rfl rfl rfl (op_move rfl) ?_
        refine wl_op [] rfl rfl rfl rfl (op_buildSlice (enc := encT) (l := [r]) (lab := 106) tL35_1wy rfl rfl (fun _ => rfl) rfl) ?_
        rintro _ _ ⟨a106, c106, rfl, rfl⟩
        refine wl_op [7] rfl rfl rfl rfl (op_append (lab := 7) (lab' := 107) rfl rfl tP35wy enc1T (Sl.lab 106 rfl (by simp [maxLen])) (by simp; omega) (by simp; omega)) ?_
        rintro _ _ ⟨a107, c107, rfl, rfl⟩
        refine wl_det rfl rfl rfl (op_assign rfl) ?_
        refine wl_nil ?_
        refine st_tn ?_
        refine w_seq ?_
        refine w_region ?_
        refine wl_det rfl rfl rfl (op_move rfl) ?_
        refine wl_det rfl rfl rfl (op_move rfl) ?_
        refine wl_det rfl rfl rfl (op_lenT rfl tS35wy (Sl.ent (Sl.lab 107 rfl (by first | (unfold maxLen; omega) | (unfold maxLen; simp; omega))))) ?_
        refine wl_det rfl rfl rfl (op_val (v' := .bool false) (by rw [decide_eq_false (fun h => h (by simp))]) (op_neq rfl rfl)) ?_
        refine wl_nil ?_
        refine st_tn ?_
        refine w_cond_f (rfl) ?_
        refine w_skip ?_
        refine st_bn ?_
        refine st_tn ?_
        refine w_region ?_
        refine wl_det rfl rfl rfl (op_move rfl) ?_
        refine wl_det rfl rfl rfl (op_add' rfl rfl (by omega)) ?_
        refine wl_det rfl rfl rfl (op_assign rfl) ?_
        refine wl_nil ?_
        refine st_roundQ (x := (all, a_all, c_all, i, L, s)) ((all ++ [r], _, _, i + 1, L2, s2)) [107, 601, 611] rfl (rfl) (.cons rfl (.cons rfl (.nil _))) (.cons rfl (.cons rfl (.cons rfl (.nil _)))) (by
            try dsimp only
            exact ⟨by omega, hF2⟩) (by
            try dsimp only
            omega) 
    · -- c45.f
      have hall := hF.al
      refine w_exit ?_
      refine st_te ?_
      refine st_te ?_
      refine st_be ?_
      refine st_tn ?_
      refine w_seq ?_
      refine w_region ?_
      refine wl_det rfl rfl rfl (op_move rfl) ?_
      refine wl_op [601] rfl rfl rfl rfl (op_fn Try.func16 rfl rfl rfl (lopen_c (s := s) (first := L.first) (segs := L.segs) 601 621 name_log hF.dn hF.good hF.ok.seg hF.on.holds (by have := hF.ok.sz; omega))) ?_
      rintro _ _ ⟨b114, rfl, rfl⟩
      refine wl_det rfl rfl rfl (op_move rfl) ?_
      refine wl_det rfl rfl rfl (op_extract rfl rfl) ?_
      refine wl_det rfl rfl rfl (op_extract rfl rfl) ?_
      refine wl_det rfl rfl rfl (op_assign rfl) ?_
      refine wl_det rfl rfl rfl (op_assign rfl) ?_
      refine wl_nil ?_
      refine st_tn ?_
      refine w_seq ?_
      refine w_region ?_
      refine wl_det rfl rfl rfl (op_move rfl) ?_
      refine wl_op [621] rfl rfl rfl rfl (op_fn Try.func24 rfl rfl rfl (lreplay_c (L := ⟨L.first, L.segs, [], true, false⟩) 621 (opened_ok hF.ok) 119 1 (by decide))) ?_
      rintro _ _ ⟨a119, c119, rfl, rfl⟩
      refine wl_det rfl rfl rfl (op_move rfl) ?_
      refine wl_det rfl rfl rfl (op_extract rfl rfl) ?_
      refine wl_det rfl rfl rfl (op_extract rfl rfl) ?_
      refine wl_det rfl rfl rfl (op_assign rfl) ?_
      refine wl_det rfl rfl rfl (op_assign rfl) ?_
      refine wl_nil ?_
      refine st_tn ?_
      refine w_seq ?_
      have hrep : repS (rawL ⟨L.first, L.segs, [], true, false⟩) (allR L.segs) 1 = all ∧ repE (rawL ⟨L.first, L.segs, [], true, false⟩) 1 = 0 := by
        have h1 := firstV_raw (L := ⟨L.first, L.segs, [], true, false⟩) hF.ok.seg
        rw [if_neg (by simp)] at h1
        have h2 : firstV (rawL ⟨L.first, L.segs, [], true, false⟩) = 1 := h1.trans hF.one
        have h3 : repE (rawL ⟨L.first, L.segs, [], true, false⟩) 1 = 0 := by
          unfold repE
          rw [if_neg (by simp [rawL]), if_neg (by omega), if_neg (by rw [h2]; simp)]
        refine ⟨?_, h3⟩
        unfold repS
        rw [if_pos h3, h2, hall]; simp
      rw [hrep.1, hrep.2]
      have hal := hF.len
      refine w_region ?_
      refine wl_det rfl rfl rfl (op_move rfl) ?_
      refine wl_det rfl rfl rfl (op_val (v' := .bool true) (by rfl) (op_eql rfl rfl)) ?_
      refine wl_det rfl rfl rfl (op_move rfl) ?_
      refine wl_wanted_det rfl rfl rfl rfl rfl rfl rfl (op_move rfl) ?_
      refine wl_wanted_det rfl rfl rfl rfl rfl rfl rfl (op_val (v' := .bool true) (by rfl) (op_eql rfl rfl)) ?_
      refine wl_det rfl rfl rfl (op_pick_t rfl rfl) ?_
      refine wl_det rfl rfl rfl (op_move rfl) ?_
      refine wl_wanted_det rfl rfl rfl rfl rfl rfl rfl (op_move rfl) ?_
      refine wl_wanted_det rfl rfl rfl rfl rfl rfl rfl (op_move rfl) ?_
      refine wl_wanted_det rfl rfl rfl rfl rfl rfl rfl (op_val (v' := .bool true) (by rfl) (op_fn Try.func25 rfl rfl rfl (fn_imp (same_any (Sl.lab 119 rfl (by unfold maxLen; omega)) (Sl.lab 7 rfl (by unfold maxLen; omega))) (fun u ρ hu => (⟨by rw [hu.1, decide_eq_true rfl], hu.2⟩ : u = .bool true ∧ ρ = []))))) ?_
      refine wl_det rfl rfl rfl (op_pick_t rfl rfl) ?_
      refine wl_det rfl rfl rfl (op_assign rfl) ?_
      refine wl_nil ?_
      refine st_tn ?_
      refine w_ret ?_
      refine st_ret (vs := [_]) [] Try.results4 ⟨rfl, trivial⟩ rfl ?_
      refine ⟨_, rfl, ?_⟩
      exact ⟨rfl, rfl⟩

end Go.Proofs.Ytcbigmgakdanjaa
namespace Go.Proofs.Ytcbigmgakdanjaa
open Go Go.SL Go.RowKit Go.WideShapes
set_option linter.unusedVariables false
set_option linter.unusedSimpArgs false
/-- An operation on a log. -/
structure OpL where
  k : Int
  z : Int
  n : Int
def encOpL (o : OpL) : List Value := [.int .u8 o.k, .int .u8 o.z, .int .u8 o.n]
set_option maxRecDepth 100000 in
theorem open_bytes {H : Type} {enc : TypeId × Value → H} {W : World} {v : Value} {d : DataW H} {p : List MemPlace} (hval : Value.okWide Try.prog W .any 0 27 v) (h : DataW.Trod enc Try.prog W 0 (fun _ => true) true 27 v d p) :
    ∃ (a1 : Option Addr) (c1 : Nat) (l1 : List UInt8), v = .slice a1 l1.length c1 ∧ Sl W [whole W] encU 1 (.slice a1 l1.length c1) l1 := by
  obtain ⟨a0, n0, c0, rfl⟩ := okWide_slice Try.underlying27 hval
  obtain ⟨d, hd, hc, hdeep⟩ := open_Trod (s := .slice 1 (.int .u8)) (by kernel_rfl) h
  obtain ⟨a1, c1, l1, rfl, hl1⟩ := has_slice hd
  obtain ⟨l1, rfl, hb1⟩ := of_all (fun p : UInt8 => (.z .u8 (p.toNat : Int) : D)) (fun p => True) l1 (fun d hd => by
      obtain ⟨y101, rfl, hy101⟩ := has_int (hl1 d hd)
      have hb := wf_u8 hy101
      refine ⟨UInt8.ofNat y101.toNat, ?_, trivial⟩
      have : ((UInt8.ofNat y101.toNat).toNat : Int) = y101 := by simp; omega
      rw [this])
  simp [Value.cells, encD] at hc
  obtain ⟨rfl, rfl, rfl⟩ := hc
  exact ⟨a0, c0, l1, by simp, Sl.conv (deep_sl hdeep) (fun _ => rfl)⟩
set_option maxRecDepth 100000 in
theorem open_ops {H : Type} {enc : TypeId × Value → H} {W : World} {v : Value} {d : DataW H} {p : List MemPlace} (hval : Value.okWide Try.prog W .any 0 49 v) (h : DataW.Trod enc Try.prog W 0 (fun _ => true) true 49 v d p) :
    ∃ (a1 : Option Addr) (c1 : Nat) (l1 : List (OpL)), v = .slice a1 l1.length c1 ∧ Sl W [whole W] encOpL 3 (.slice a1 l1.length c1) l1 ∧ (∀ p ∈ l1, (0 ≤ p.k ∧ p.k ≤ 255) ∧ (0 ≤ p.z ∧ p.z ≤ 255) ∧ (0 ≤ p.n ∧ p.n ≤ 255)) := by
  obtain ⟨a0, n0, c0, rfl⟩ := Go.WideShapes.okWide_slice Try.underlying49 hval
  obtain ⟨d, hd, hc, hdeep⟩ := open_Trod (s := .slice 3 (.row [.int .u8, .int .u8, .int .u8])) (by kernel_rfl) h
  obtain ⟨a1, c1, l1, rfl, hl1⟩ := has_slice hd
  obtain ⟨l1, rfl, hb1⟩ := of_all (fun p : OpL => (.row [.z .u8 p.k, .z .u8 p.z, .z .u8 p.n] : D)) (fun p => (0 ≤ p.k ∧ p.k ≤ 255) ∧ (0 ≤ p.z ∧ p.z ≤ 255) ∧ (0 ≤ p.n ∧ p.n ≤ 255)) l1 (fun d hd => by
      obtain ⟨dsy101, rfl, hdsy101⟩ := has_row (hl1 d hd)
      obtain ⟨ey101_0, ry101_0, rfl, qy101_0, hdsy101⟩ := has_cons hdsy101
      obtain ⟨ey101_1, ry101_1, rfl, qy101_1, hdsy101⟩ := has_cons hdsy101
      obtain ⟨ey101_2, ry101_2, rfl, qy101_2, hdsy101⟩ := has_cons hdsy101
      obtain rfl := has_nil hdsy101
      obtain ⟨y102, rfl, hy102⟩ := has_int qy101_0
      obtain ⟨y103, rfl, hy103⟩ := has_int qy101_1
      obtain ⟨y104, rfl, hy104⟩ := has_int qy101_2
      exact ⟨⟨y102, y103, y104⟩, rfl, ⟨wf_u8 hy102, wf_u8 hy103, wf_u8 hy104⟩⟩)
  simp [Value.cells, encD] at hc
  obtain ⟨rfl, rfl, rfl⟩ := hc
  exact ⟨a0, c0, l1, by simp, Sl.conv (deep_sl hdeep) (fun _ => rfl), hb1⟩
-- PATTERN ops open|49|open_ops|⟨a1_#, c1_#, l1_#, rfl, h0_#, h1_#⟩
set_option maxRecDepth 100000 in
theorem open_scr {H : Type} {enc : TypeId × Value → H} {W : World} {v : Value} {d : DataW H} {p : List MemPlace} (hval : Value.okWide Try.prog W .any 0 66 v) (h : DataW.Trod enc Try.prog W 0 (fun _ => true) true 66 v d p) :
    ∃ (a1 : Option Addr) (c1 : Nat) (l1 : List (Int)), v = .slice a1 l1.length c1 ∧ Sl W [whole W] SL.encZ 1 (.slice a1 l1.length c1) l1 ∧ (∀ p ∈ l1, (-9223372036854775808 ≤ p ∧ p ≤ 9223372036854775807)) := by
  obtain ⟨a0, n0, c0, rfl⟩ := Go.WideShapes.okWide_slice Try.underlying66 hval
  obtain ⟨d, hd, hc, hdeep⟩ := open_Trod (s := .slice 1 (.int .i64)) (by kernel_rfl) h
  obtain ⟨a1, c1, l1, rfl, hl1⟩ := has_slice hd
  obtain ⟨l1, rfl, hb1⟩ := of_all (fun p : Int => (.z .i64 p : D)) (fun p => (-9223372036854775808 ≤ p ∧ p ≤ 9223372036854775807)) l1 (fun d hd => by
      obtain ⟨y101, rfl, hy101⟩ := has_int (hl1 d hd)
      exact ⟨y101, rfl, wf_i64 hy101⟩)
  simp [Value.cells, encD] at hc
  obtain ⟨rfl, rfl, rfl⟩ := hc
  exact ⟨a0, c0, l1, by simp, Sl.conv (deep_sl hdeep) (fun _ => rfl), hb1⟩
-- PATTERN scr open|66|open_scr|⟨a1_#, c1_#, l1_#, rfl, h0_#, h1_#⟩
end Go.Proofs.Ytcbigmgakdanjaa
