/- Contracts: CutPrefix, parse. Contracts: the small methods of a log. Contracts: Append, Segments, Read, Replay of a log. Contracts: Read, Replay of a log. Contracts: note. Contracts: load. Contracts: Open. Contracts: Open of a log that a disk holds. Contracts: a disk and a log as one thing each. Contracts: a log as one thing. Contracts: Append, Discard, Open of a log as one thing. Contracts: Commit. A log on a disk that does not fail: what Commit changes; Commit as one thing. Contracts: made, known. Contracts: a log that is nil; the law Nil. The law Nil (layer 27). Commit on a disk that does not fail, whole; the law Limits (layer 27). Contracts: Clone and Equal of a disk as one thing; record, same (layer 27's model). The law Full (layer 27). Arguments of the laws of layer 27, opened. Contracts: the model of layer 27: all, last, name, number. Contracts: the model of layer 27: begin, open, truncate. Conditions: none. -/
import Derived.Test.YtcbigmgakdanjaaSlZ
import Derived.Test.YtcbigmgakdanjaaQGa
import Derived.Test.YtcbigmgakdanjaaSlK
import Derived.Test.YtcbigmgakdanjaaSlD
namespace Go.Proofs.Ytcbigmgakdanjaa
open Go Go.SL Go.RowKit Go.RdM Go.WalM
set_option linter.unusedVariables false
set_option linter.unusedSimpArgs false
theorem tF76_1wg : fieldB Try.prog 76 1 1 = true := by kernel_rfl
theorem tO5wg : oneB Try.prog 5 = true := by kernel_rfl
theorem tO9wg : oneB Try.prog 9 = true := by kernel_rfl
theorem tS27wg : sliceB Try.prog 27 5 1 = true := by kernel_rfl
set_option maxHeartbeats 400000 in
set_option maxRecDepth 100000 in
theorem hasp_any {σ : World} {F : List Res} (s p : RdM.Bs) (hs : s.length ≤ 1099511627776) (hp : p.length ≤ 1099511627776) : FnT Try.prog σ F 92 [.string (str s), .string (str p)] [] (fun u ρ => u = .bool (decide (s.take p.length = p)) ∧ ρ = []) := by
  refine fn_of 18 Try.func92 rfl Try.ntmps92 rfl ?_
  refine w_seq (w_region (za rfl (wl_nil (st_tn (w_seq ?_)))))
  by_cases hl : p.length ≤ s.length
  · -- hl+
    refine w_region (zm rfl (zd rfl (op_lenBs rfl Try.underlying9) (zm rfl (zd rfl (op_lenBs rfl Try.underlying9) (zd rfl (op_val (v' := .bool true) (by simp [hl]) (op_geq rfl rfl)) ?_)))))
    refine zm rfl (wl_wanted_det rfl rfl rfl rfl rfl rfl rfl (op_move rfl) (wl_wanted_det rfl rfl rfl rfl rfl rfl rfl (op_move rfl) (wl_wanted_det rfl rfl rfl rfl rfl rfl rfl (op_lenBs rfl Try.underlying9) (wl_wanted_det rfl rfl rfl rfl rfl rfl rfl (op_sliceRBs rfl rfl Try.underlying9 (by omega)) ?_))))
    refine wl_wanted_det rfl rfl rfl rfl rfl rfl rfl (op_move rfl) (wl_wanted_det rfl rfl rfl rfl rfl rfl rfl (op_eqBs rfl rfl) (zd rfl (op_pick_t rfl rfl) (za rfl (wl_nil (st_tn (w_ret (st_ret (vs := [_]) [] Try.results92 ⟨rfl, trivial⟩ rfl ?_)))))))
    refine ⟨_, rfl, ?_⟩
    refine ⟨?_, rfl⟩
    first | rfl | (have : ¬ s.take p.length = p := fun h => by have := congrArg List.length h; rw [List.length_take] at this; omega
                   simp [retv, this])
  · -- hl-
    refine w_region (zm rfl (zd rfl (op_lenBs rfl Try.underlying9) (zm rfl (zd rfl (op_lenBs rfl Try.underlying9) (zd rfl (op_val (v' := .bool false) (by simp; omega) (op_geq rfl rfl)) ?_)))))
    refine zm rfl (wl_unwanted rfl rfl rfl rfl rfl rfl rfl rfl (wl_unwanted rfl rfl rfl rfl rfl rfl rfl rfl (wl_unwanted rfl rfl rfl rfl rfl rfl rfl rfl (wl_unwanted rfl rfl rfl rfl rfl rfl rfl rfl (wl_unwanted rfl rfl rfl rfl rfl rfl rfl rfl (wl_unwanted rfl rfl rfl rfl rfl rfl rfl rfl (zd rfl (op_pick_f rfl rfl) (za rfl (wl_nil (st_tn (w_ret (st_ret (vs := [_]) [] Try.results92 ⟨rfl, trivial⟩ rfl ?_))))))))))))
    refine ⟨_, rfl, ?_⟩
    refine ⟨?_, rfl⟩
    first | rfl | (have : ¬ s.take p.length = p := fun h => by have := congrArg List.length h; rw [List.length_take] at this; omega
                   simp [retv, this])
set_option maxHeartbeats 400000 in
set_option maxRecDepth 100000 in
theorem cut0_any {σ : World} {F : List Res} (s p : RdM.Bs) (hs : s.length ≤ 1099511627776) (hp : p.length ≤ 1099511627776) : FnT Try.prog σ F 82 [.string (str s), .string (str p)] [] (fun u ρ => u = .tuple #[.string (str (if s.take p.length = p then s.drop p.length else s)), .bool (decide (s.take p.length = p))] ∧ ρ = []) := by
  refine fn_of 15 Try.func82 rfl Try.ntmps82 rfl ?_
  refine w_seq (w_region (za rfl (za rfl (wl_nil (st_tn (w_seq (w_seq (w_region (zm rfl (zm rfl (zd rfl (op_fn Try.func92 rfl rfl rfl (hasp_any s p hs hp)) (zd rfl (op_not_d rfl) (wl_nil ?_)))))))))))))
  refine st_tn (w_cond_d rfl (fun hc9 => ?_) (fun hc9 => ?_))
  · -- c9.t
    refine w_seq (w_region (zm rfl (za rfl (za rfl (wl_nil (st_tn (w_ret (st_tr (st_ret (vs := [_, _]) [] Try.results82 ⟨rfl, ⟨rfl, trivial⟩⟩ rfl ?_)))))))))
    refine ⟨_, rfl, ?_⟩
    rw [if_neg hc9, decide_eq_false hc9]; exact ⟨rfl, rfl⟩
  · -- c9.f
    have hc : s.take p.length = p := Classical.not_not.1 hc9
    have hle : p.length ≤ s.length := by have := congrArg List.length hc; rw [List.length_take] at this; omega
    refine w_skip (st_tn (w_seq (w_region (zm rfl (zm rfl (zd rfl (op_lenBs rfl Try.underlying9) (zd rfl (op_sliceLBs rfl rfl Try.underlying9 (by omega)) ?_)))))))
    refine za rfl (za rfl (wl_nil (st_tn (w_ret (st_ret (vs := [_, _]) [] Try.results82 ⟨rfl, ⟨rfl, trivial⟩⟩ rfl ?_)))))
    refine ⟨_, rfl, ?_⟩
    rw [if_pos hc, decide_eq_true hc]; exact ⟨rfl, rfl⟩
set_option maxHeartbeats 400000 in
set_option maxRecDepth 100000 in
theorem cutp_any {σ : World} {F : List Res} (s p : RdM.Bs) (hs : s.length ≤ 1099511627776) (hp : p.length ≤ 1099511627776) : FnT Try.prog σ F 70 [.string (str s), .string (str p)] [] (fun u ρ => u = .tuple #[.string (str (if s.take p.length = p then s.drop p.length else s)), .bool (decide (s.take p.length = p))] ∧ ρ = []) := by
  refine fn_of 11 Try.func70 rfl Try.ntmps70 rfl ?_
  refine w_seq (w_region (za rfl (za rfl (wl_nil (st_tn (w_seq (w_region (zm rfl (zm rfl (zd rfl (op_fn Try.func82 rfl rfl rfl (cut0_any s p hs hp)) (zd rfl (op_extract rfl rfl) (zd rfl (op_extract rfl rfl) (za rfl ?_)))))))))))))
  refine za rfl (wl_nil (st_tn (w_ret (st_ret (vs := [_, _]) [] Try.results70 ⟨rfl, ⟨rfl, trivial⟩⟩ rfl ?_))))
  refine ⟨_, rfl, ?_⟩
  exact ⟨rfl, rfl⟩
theorem isD_take {s : RdM.Bs} {i : Nat} {b : UInt8} (h : s[i]? = some b) (hn : isD (s.take i)) (hb : 48 ≤ b.toNat ∧ b.toNat ≤ 57) : isD (s.take (i + 1)) := by
  rw [take_snoc h]
  intro q hq
  rcases List.mem_append.1 hq with hq | hq
  · exact hn q hq
  · rw [List.mem_singleton] at hq; subst hq; exact hb
set_option maxHeartbeats 1000000 in
set_option maxRecDepth 100000 in
theorem parse_any {σ : World} {F : List Res} {b d m c cp : Nat} {nm : RdM.Bs} {v : Lr} {a p : Option Addr} (fl : RdM.Bs) (hnm : nm.length ≤ 64) (hfl : fl.length ≤ 1099511627776) (hd : Ent σ F (At ⟨b, 0, none⟩ (cellL d nm v m a c p cp))) :
    FnT Try.prog σ F 52 [.pointer (some ⟨b, 0, none⟩), .string (str fl)] [] (fun u ρ => u = .tuple #[.int .i64 (((parseN nm fl).getD 0 : Nat) : Int), .bool (parseN nm fl).isSome] ∧ ρ = []) := by
  refine fn_of 51 Try.func52 rfl Try.ntmps52 rfl ?_
  refine w_seq (w_region (za rfl (za rfl (wl_nil (st_tn (w_seq (w_region (zm rfl (zm rfl (zd rfl (op_nilCheck rfl) (zd rfl (op_fieldAddr (off := 1) rfl tF76_1wg) (zd rfl (op_load1 rfl tO9wg (Ent.app (Ent.fld hd 1) _)) (zd rfl (op_catBs rfl rfl (by simp; omega)) ?_)))))))))))))
  refine zd rfl (op_fn Try.func70 rfl rfl rfl (cutp_any fl (nm ++ [46]) hfl (by simp; omega))) ?_
  refine zm rfl (zd rfl (op_extract rfl rfl) (zd rfl (op_extract rfl rfl) (za rfl (za rfl (wl_nil (st_tn (w_seq (w_seq ?_))))))))
  by_cases hpf : fl.take (nm ++ [46]).length = nm ++ [46]
  · -- hpf+
    obtain ⟨s, hsd⟩ : ∃ s, s = fl.drop (nm ++ [46]).length := ⟨_, rfl⟩
    have hsl : s.length ≤ 1099511627776 := by rw [hsd, List.length_drop]; omega
    have hif : (if fl.take (nm ++ [46]).length = nm ++ [46] then fl.drop (nm ++ [46]).length else fl) = s := by rw [if_pos hpf, hsd]
    rw [hif]
    refine w_region (zm rfl (zd rfl (op_val (v' := .bool false) (by rw [decide_eq_false (fun h => h hpf)]) (op_not_d rfl)) ?_))
    refine zm rfl (wl_wanted_det rfl rfl rfl rfl rfl rfl rfl (op_move rfl) (wl_wanted_det rfl rfl rfl rfl rfl rfl rfl (op_lenBs rfl Try.underlying9) (wl_wanted_det rfl rfl rfl rfl rfl rfl rfl (op_neq rfl rfl) (zd rfl (op_pick_f rfl rfl) (wl_nil (st_tn (w_cond_d rfl (fun hc27 => ?_) (fun hc27 => ?_))))))))
    · -- c27.t
      refine w_seq (w_region (za rfl (za rfl (wl_nil (st_tn (w_ret (st_tr (st_ret (vs := [_, _]) [] Try.results52 ⟨rfl, ⟨rfl, trivial⟩⟩ rfl ?_))))))))
      refine ⟨_, rfl, ?_⟩
      have hno : parseN nm fl = none := by unfold parseN; rw [← hsd, if_neg (fun h => by have := h.2.1; omega)]
      rw [hno]; exact ⟨rfl, rfl⟩
    · -- c27.f
      have h6 : s.length = 6 := by omega
      refine w_skip (st_tn (w_seq (w_region (za rfl (wl_nil (st_tn (w_seq (w_seq (w_region (zm rfl (wl_op [] rfl rfl rfl rfl (op_strBytes (lab := 29) rfl Try.underlying9 Try.underlying27 Try.underlying5 (by unfold maxLen; omega)) ?_)))))))))))
      rintro _ _ ⟨g29, c29, rfl, rfl⟩
      refine zd rfl (op_lenT rfl tS27wg (Sl.ent (Sl.labStr 29 rfl (by unfold maxLen; omega)))) ?_
      refine zm rfl (wl_nil (st_tn (w_block ?_)))
      refine w_loopQ (X := Nat × Nat) (fun z => z.2 ≤ s.length ∧ isD (s.take z.2) ∧ z.1 = dval (s.take z.2)) (fun z => [(8, .int .i64 (z.1)), (31, .int .i64 (z.2))]) (fun _ => []) (fun z => s.length - z.2) ((0, 0)) [(29, _), (30, _)] [(29, _)] [29] rfl (rfl) (.cons rfl (.cons rfl (.nil _))) (.cons rfl (.cons rfl (.nil _))) (by
          try dsimp only
          exact ⟨Nat.zero_le _, by intro q hq; simp at hq, rfl⟩) ?_
      rintro ⟨n, i⟩ ⟨hi, hisd, hn⟩
      refine w_norm2 (by dsimp only [List.cons_append, List.nil_append]) (by dsimp only [List.cons_append, List.nil_append]) ?_
      try dsimp only at hi hisd hn ⊢
      refine w_seq (w_region (zd rfl (op_lss rfl rfl) (wl_nil (st_tn (w_seq (w_cond_d rfl (fun hc32 => ?_) (fun hc32 => ?_)))))))
      · -- c32.t
        obtain ⟨x, hx⟩ := getE (l := s) (i := i) (by omega)
        have hnb : n < 10 ^ 6 := by
          rw [hn]
          refine Nat.lt_of_lt_of_le (dval_lt _ hisd) (Nat.pow_le_pow_right (by omega) ?_)
          rw [List.length_take]; omega
        have hsv : dval (s.take (i + 1)) = 10 * n + (x.toNat - 48) := by rw [take_snoc hx, dval_snoc, hn]
        refine w_skip (st_tn (w_seq (w_block (w_seq (w_region (zd rfl (op_idx rfl rfl tS27wg (Sl.ent (Sl.labStr 29 rfl (by unfold maxLen; omega))) (by omega)) ?_))))))
        refine zd rfl (op_ldx rfl tO5wg (Sl.labStr 29 rfl (by unfold maxLen; omega)) (by assumption) (by rfl)) ?_
        refine za rfl (wl_nil (st_tn (w_seq (w_seq (w_cutL [(40, .bool (decide (x.toNat < 48 ∨ x.toNat > 57)))] [8, 10, 29, 30, 31] [29] rfl (fun K' hK => ?_) ?_)))))
        · -- cut r8
          refine w_region (zm rfl (zd rfl (op_lss rfl rfl) (zm rfl (wl_gsplit (t := 37) rfl (fun hg37 => ?_) (fun hg37 => ?_)))))
          · -- 37 is True
            refine wl_unwanted rfl rfl rfl rfl rfl rfl rfl rfl (wl_unwanted rfl rfl rfl rfl rfl rfl rfl rfl (zd rfl (op_pick_t rfl rfl) (wl_nil (st_tn ?_))))
            exact cut_done1 [29] hK rfl (by first | (rw [decide_eq_decide]; omega) | (symm; rw [decide_eq_false_iff_not]; omega) | (symm; rw [decide_eq_true_iff]; omega) | (simp; done) | (simp; omega) | (simp [*]; done) | (simp [*]; omega)) (by rfl) rfl rfl
          · -- 37 is False
            refine wl_wanted_det rfl rfl rfl rfl rfl rfl rfl (op_move rfl) (wl_wanted_det rfl rfl rfl rfl rfl rfl rfl (op_gtr rfl rfl) (zd rfl (op_pick_f rfl rfl) (wl_nil (st_tn ?_))))
            exact cut_done1 [29] hK rfl (by first | (rw [decide_eq_decide]; omega) | (symm; rw [decide_eq_false_iff_not]; omega) | (symm; rw [decide_eq_true_iff]; omega) | (simp; done) | (simp; omega) | (simp [*]; done) | (simp [*]; omega)) (by rfl) rfl rfl
        · -- behind r8
          show W _ _ _ _ _ [(40, _), (8, _), (10, _), (29, _), (30, _), (31, _)] [(29, _)] _
          refine w_cond_d rfl (fun hc40 => ?_) (fun hc40 => ?_)
          · -- c40.t
            refine w_seq (w_region (za rfl (za rfl (wl_nil (st_tn (w_ret (st_tr (st_br (st_tr (st_tr (st_br (st_tr (st_ret (vs := [_, _]) [] Try.results52 ⟨rfl, ⟨rfl, trivial⟩⟩ rfl ?_)))))))))))))
            refine ⟨_, rfl, ?_⟩
            have hno : parseN nm fl = none := by
              unfold parseN; rw [← hsd, if_neg]
              intro h
              have := h.2.2.1 x (List.mem_of_getElem? hx)
              omega
            rw [hno]; exact ⟨rfl, rfl⟩
          · -- c40.f
            refine w_skip (st_tn (w_region (zm rfl (zd rfl (op_mul' rfl rfl (by omega)) ?_))))
            refine zm rfl (zd rfl (op_sub8 rfl rfl (by omega)) ?_)
            refine zd rfl (op_convI64 rfl (by rw [Try.underlying5]; rfl) Try.underlying3 (by omega)) ?_
            refine zd rfl (op_val (v' := .int .i64 ((dval (s.take (i + 1)) : Nat) : Int)) (by rw [hsv]; congr 1; omega) (op_add' rfl rfl (by omega))) ?_
            refine za rfl (wl_nil (st_bn (st_tn (w_region (zd rfl (op_add' rfl rfl (by omega)) ?_)))))
            refine zm rfl (wl_nil ?_)
            refine st_roundQ (x := (n, i)) ((dval (s.take (i + 1)), i + 1)) [29] rfl (rfl) (.cons rfl (.cons rfl (.nil _))) (.cons rfl (.cons rfl (.nil _))) (by
                try dsimp only
                exact ⟨by omega, isD_take hx (by assumption) (by omega), rfl⟩) (by
                try dsimp only
                omega)
      · -- c32.f
        refine w_exit (st_te ?_)
        refine st_te ?_
        refine st_be (st_tn (w_seq (w_region (zm rfl (zm rfl (zd rfl (op_gtr rfl rfl) (za rfl (za rfl (wl_nil (st_tn (w_ret (st_ret (vs := [_, _]) [] Try.results52 ⟨rfl, ⟨rfl, trivial⟩⟩ rfl ?_))))))))))))
        refine ⟨_, rfl, ?_⟩
        rw [take_all (by omega)] at hn hisd
        have hpn : parseN nm fl = if 0 < n then some n else none := by
          unfold parseN
          rw [← hsd, hn]
          by_cases h0 : 0 < dval s
          · rw [if_pos ⟨hpf, h6, hisd, h0⟩, if_pos h0]
          · rw [if_neg (fun h => h0 h.2.2.2), if_neg h0]
        rw [hpn]
        by_cases h0 : 0 < n
        · rw [if_pos h0, decide_eq_true (by omega)]; exact ⟨rfl, rfl⟩
        · rw [if_neg h0, decide_eq_false (by omega), show n = 0 by omega]; exact ⟨rfl, rfl⟩
  · -- hpf-
    have hno : parseN nm fl = none := by unfold parseN; rw [if_neg (fun h => hpf h.1)]
    refine w_region (zm rfl (zd rfl (op_val (v' := .bool true) (by rw [decide_eq_true hpf]) (op_not_d rfl)) ?_))
    refine zm rfl (wl_unwanted rfl rfl rfl rfl rfl rfl rfl rfl (wl_unwanted rfl rfl rfl rfl rfl rfl rfl rfl (wl_unwanted rfl rfl rfl rfl rfl rfl rfl rfl (zd rfl (op_pick_t rfl rfl) (wl_nil (st_tn (w_cond_t (rfl) ?_)))))))
    refine w_seq (w_region (za rfl (za rfl (wl_nil (st_tn (w_ret (st_tr (st_ret (vs := [_, _]) [] Try.results52 ⟨rfl, ⟨rfl, trivial⟩⟩ rfl ?_))))))))
    refine ⟨_, rfl, ?_⟩
    rw [hno]; exact ⟨rfl, rfl⟩
end Go.Proofs.Ytcbigmgakdanjaa
namespace Go.Proofs.Ytcbigmgakdanjaa
open Go Go.SL Go.RowKit Go.RdM Go.WalM
set_option linter.unusedVariables false
set_option linter.unusedSimpArgs false
theorem tF76_2wh : fieldB Try.prog 76 2 2 = true := by kernel_rfl
theorem tF76_4wh : fieldB Try.prog 76 4 4 = true := by kernel_rfl
theorem tF76_5wh : fieldB Try.prog 76 5 5 = true := by kernel_rfl
theorem tF76_6wh : fieldB Try.prog 76 6 6 = true := by kernel_rfl
theorem tF87_0wh : fieldB Try.prog 87 0 0 = true := by kernel_rfl
theorem tF87_1wh : fieldB Try.prog 87 1 1 = true := by kernel_rfl
theorem tF87_2wh : fieldB Try.prog 87 2 2 = true := by kernel_rfl
theorem tF87_3wh : fieldB Try.prog 87 3 3 = true := by kernel_rfl
theorem tMixwh : Try.prog.follows .mixedOrders = true := by kernel_rfl
theorem tO3wh : oneB Try.prog 3 = true := by kernel_rfl
theorem tO35wh : oneB Try.prog 35 = true := by kernel_rfl
theorem tO4wh : oneB Try.prog 4 = true := by kernel_rfl
theorem tO73wh : oneB Try.prog 73 = true := by kernel_rfl
theorem tS35wh : sliceB Try.prog 35 9 1 = true := by kernel_rfl
theorem tS73wh : sliceB Try.prog 73 87 4 = true := by kernel_rfl
theorem tZ35wh : (Try.prog.info? 35).map (·.size) = some 1 := by kernel_rfl
theorem tZ4wh : (Try.prog.info? 4).map (·.size) = some 1 := by kernel_rfl
theorem celLg {σ : World} {F : List Res} {R : RL} {b T : Nat} {d m c cp : Nat} {nm : RdM.Bs} {v : Lr} {a p : Option Addr} (lab : Nat) (h : getL R lab = some (cel b (cellL d nm v m a c p cp) T)) : Ent σ (rs R ++ F) (At ⟨b, 0, none⟩ (cellL d nm v m a c p cp)) := Ent.lab h (says_cel 0)
def readyL (v : Lr) : Int := if v.broken = true then 18 else 0
set_option maxHeartbeats 400000 in
set_option maxRecDepth 100000 in
theorem lready_any {σ : World} {F : List Res} {b d m c cp : Nat} {nm : RdM.Bs} {v : Lr} {a p : Option Addr} (hd : Ent σ F (At ⟨b, 0, none⟩ (cellL d nm v m a c p cp))) :
    FnT Try.prog σ F 42 [.pointer (some ⟨b, 0, none⟩)] [] (fun u ρ => u = .int .i64 (readyL v) ∧ ρ = []) := by
  refine fn_of 11 Try.func42 rfl Try.ntmps42 rfl ?_
  refine w_seq (w_region (za rfl (wl_nil (st_tn (w_seq (w_block (w_seq (w_region (zm rfl (zd rfl (op_val (v' := .bool false) (by simp) (op_eqPtr rfl Try.underlying23)) ?_))))))))))
  refine za rfl (wl_nil (st_tn (w_cond_f (rfl) ?_)))
  refine w_seq (w_region (zm rfl (zd rfl (op_nilCheck rfl) (zd rfl (op_fieldAddr (off := 6) rfl tF76_6wh) (zd rfl (op_load1 rfl tO4wh (Ent.app (Ent.fld hd 6) _)) (za rfl (wl_nil (st_tn (w_cond rfl (fun hc6 => ?_) (fun hc6 => ?_))))))))))
  · -- c6.t
    refine w_seq (w_region (za rfl (wl_nil (st_tn (w_ret (st_br (st_tr (st_ret (vs := [_]) [] Try.results42 ⟨rfl, trivial⟩ rfl ?_))))))))
    refine ⟨_, rfl, ?_⟩
    unfold readyL; rw [if_pos (by assumption)]; exact ⟨rfl, rfl⟩
  · -- c6.f
    refine w_skip (st_bn (st_tn (w_seq (w_region (za rfl (wl_nil (st_tn (w_ret (st_ret (vs := [_]) [] Try.results42 ⟨rfl, trivial⟩ rfl ?_)))))))))
    refine ⟨_, rfl, ?_⟩
    unfold readyL; rw [if_neg (by simpa using hc6)]; exact ⟨rfl, rfl⟩
set_option maxHeartbeats 400000 in
set_option maxRecDepth 100000 in
theorem lfail_any {σ : World} {F : List Res} {b d m c cp : Nat} {nm : RdM.Bs} {v : Lr} {a p : Option Addr} (e : Int) :
    FnT Try.prog σ F 47 [.pointer (some ⟨b, 0, none⟩), .int .i64 e] [(611, cel b (cellL d nm v m a c p cp) 76)] (fun u ρ => u = .int .i64 e ∧ ρ = [(611, cel b (cellL d nm { v with broken := decide (e = 27) } m a c p cp) 76)]) := by
  refine fn_of 11 Try.func47 rfl Try.ntmps47 rfl ?_
  refine w_seq (w_region (za rfl (wl_nil (st_tn (w_seq (w_region (zm rfl (zm rfl (zd rfl (op_eql rfl rfl) (zd rfl (op_nilCheck rfl) (zd rfl (op_fieldAddr (off := 6) rfl tF76_6wh) (wl_op0 [611] rfl rfl rfl (op_store rfl rfl tZ4wh (by rfl) (by rfl) (by exact Nat.le_of_ble_eq_true rfl)) ?_))))))))))))
  rintro _ _ ⟨rfl, rfl⟩
  refine wl_nil (st_tn (w_seq (w_region (zm rfl (za rfl (wl_nil (st_tn (w_ret (st_ret (vs := [_]) [611] Try.results47 ⟨rfl, trivial⟩ rfl ?_)))))))))
  refine ⟨[(611, _)], rfl, ?_⟩
  exact ⟨rfl, rfl⟩
def lastV (v : Lr) : Nat := if v.broken = true then 0 else match v.rows.getLast? with | none => 0 | some r => r.2.2.1
theorem lastV_some {v : Lr} (hb : v.broken = false) {r : Nat × Nat × Nat × Nat} (h : v.rows[((v.rows.length : Int) - 1).toNat]? = some r) : lastV v = r.2.2.1 := by
  have : v.rows.getLast? = some r := by rw [List.getLast?_eq_getElem?, ← h]; congr 1; omega
  unfold lastV; rw [if_neg (by simp [hb]), this]
theorem lastV_nil {v : Lr} (h : v.rows.length = 0) : lastV v = 0 := by
  have : v.rows = [] := List.eq_nil_of_length_eq_zero h
  unfold lastV; rw [this]; simp
theorem ready_t {v : Lr} (h : readyL v ≠ 0) : v.broken = true := by unfold readyL at h; by_cases hb : v.broken = true; (· exact hb); (· rw [if_neg hb] at h; exact absurd rfl h)
theorem ready_f {v : Lr} (h : ¬ readyL v ≠ 0) : v.broken = false := by unfold readyL at h; by_cases hb : v.broken = true; (· rw [if_pos hb] at h; simp at h); (· simpa using hb)
set_option maxHeartbeats 400000 in
set_option maxRecDepth 100000 in
theorem last_any {σ : World} {F : List Res} {b d m c cp : Nat} {nm : RdM.Bs} {v : Lr} {a p : Option Addr} (hd : Ent σ F (At ⟨b, 0, none⟩ (cellL d nm v m a c p cp))) (hs : Sl σ F encRow 4 (.slice a v.rows.length c) v.rows) :
    FnT Try.prog σ F 17 [.pointer (some ⟨b, 0, none⟩)] [] (fun u ρ => u = .int .i64 (lastV v : Int) ∧ ρ = []) := by
  refine fn_of 27 Try.func17 rfl Try.ntmps17 rfl ?_
  have hle := hs.i64
  refine w_seq (w_region (za rfl (wl_nil (st_tn (w_seq (w_seq ?_))))))
  by_cases hb : v.broken = true
  · -- hb+
    have hr1 : readyL v ≠ 0 := by unfold readyL; rw [if_pos hb]; simp
    refine w_region (zm rfl (zd rfl (op_fn Try.func42 rfl rfl rfl (lready_any (Ent.app hd _))) (zd rfl (op_val (v' := .bool true) (by rw [decide_eq_true hr1]) (op_neq rfl rfl)) ?_)))
    refine zm rfl (wl_unwanted rfl rfl rfl rfl rfl rfl rfl rfl (wl_unwanted rfl rfl rfl rfl rfl rfl rfl rfl (wl_unwanted rfl rfl rfl rfl rfl rfl rfl rfl (wl_unwanted rfl rfl rfl rfl rfl rfl rfl rfl (wl_unwanted rfl rfl rfl rfl rfl rfl rfl rfl (wl_unwanted rfl rfl rfl rfl rfl rfl rfl rfl (zd rfl (op_pick_t rfl rfl) (wl_nil (st_tn (w_cond_t (rfl) ?_))))))))))
    refine w_seq (w_region (za rfl (wl_nil (st_tn (w_ret (st_tr (st_ret (vs := [_]) [] Try.results17 ⟨rfl, trivial⟩ rfl ?_)))))))
    refine ⟨_, rfl, ?_⟩
    have h : lastV v = 0 := by unfold lastV; rw [if_pos hb]
    rw [h]; exact ⟨rfl, rfl⟩
  · -- hb-
    have hb : v.broken = false := by simpa using hb
    have hr1 : readyL v = 0 := by unfold readyL; rw [if_neg (by simp [hb])]
    refine w_region (zm rfl (zd rfl (op_fn Try.func42 rfl rfl rfl (lready_any (Ent.app hd _))) (zd rfl (op_val (v' := .bool false) (by rw [hr1]; rfl) (op_neq rfl rfl)) ?_)))
    refine zm rfl (wl_wanted_det rfl rfl rfl rfl rfl rfl rfl (op_move rfl) (wl_wanted_det rfl rfl rfl rfl rfl rfl rfl (op_nilCheck rfl) (wl_wanted_det rfl rfl rfl rfl rfl rfl rfl (op_fieldAddr (off := 2) rfl tF76_2wh) (wl_wanted_det rfl rfl rfl rfl rfl rfl rfl (op_load1 rfl tO73wh (Ent.app (Ent.fld hd 2) _)) (wl_wanted_det rfl rfl rfl rfl rfl rfl rfl (op_lenT rfl tS73wh (Sl.ent (by first | exact Sl.app (by assumption) _ | exact Sl.app (Sl.app (by assumption) _) _))) ?_)))))
    refine wl_wanted_det rfl rfl rfl rfl rfl rfl rfl (op_eql rfl rfl) (zd rfl (op_pick_f rfl rfl) (wl_nil (st_tn (w_cond_d rfl (fun hc13 => ?_) (fun hc13 => ?_)))))
    · -- c13.t
      refine w_seq (w_region (za rfl (wl_nil (st_tn (w_ret (st_tr (st_ret (vs := [_]) [] Try.results17 ⟨rfl, trivial⟩ rfl ?_)))))))
      refine ⟨_, rfl, ?_⟩
      rw [lastV_nil (by omega)]; exact ⟨rfl, rfl⟩
    · -- c13.f
      refine w_skip (st_tn (w_seq ?_))
      obtain ⟨r, hr⟩ := getE (l := v.rows) (i := ((v.rows.length : Int) - 1).toNat) (by omega)
      refine w_draw (D := [⟨14, [], [], [], _, false, [], []⟩, ⟨15, [0], [], [], _, false, [], []⟩, ⟨16, [1], [], [], _, false, [], []⟩, ⟨17, [2], [], [], _, false, [], []⟩, ⟨18, [], [], [], _, false, [], []⟩, ⟨19, [4], [], [], _, false, [], []⟩, ⟨20, [5], [], [], _, false, [], []⟩, ⟨21, [6], [], [], _, false, [], []⟩, ⟨22, [7], [], [], _, false, [], []⟩, ⟨23, [8], [], [], _, false, [], []⟩]) [] [0] [⟨14, [], [], false, [], []⟩, ⟨15, [0], [], false, [], []⟩, ⟨16, [1], [], false, [], []⟩, ⟨17, [2], [], false, [], []⟩, ⟨18, [], [], false, [], []⟩, ⟨19, [4], [], false, [], []⟩, ⟨20, [5], [], false, [], []⟩, ⟨21, [6], [], false, [], []⟩, ⟨22, [7], [], false, [], []⟩, ⟨23, [8], [], false, [], []⟩] tMixwh (by rfl) (by kernel_rfl) (by rfl) (by rfl)
          ⟨.plain rfl (by intro X; exact op_move rfl),
          ⟨.plain rfl (by intro X; rintro _ _ ⟨rfl, rfl⟩; exact op_nilCheck rfl),
          ⟨.plain rfl (by intro X; rintro _ _ ⟨rfl, rfl⟩; exact op_fieldAddr (off := 2) rfl tF76_2wh),
          ⟨.plain rfl (by intro X; rintro _ _ ⟨rfl, rfl⟩; exact op_load1 rfl tO73wh (Ent.app (Ent.app (Ent.fld hd 2) X) _)),
          ⟨.plain rfl (by intro X; exact op_move rfl),
          ⟨.plain rfl (by intro X; rintro _ _ ⟨rfl, rfl⟩; exact op_nilCheck rfl),
          ⟨.plain rfl (by intro X; rintro _ _ ⟨rfl, rfl⟩; exact op_fieldAddr (off := 2) rfl tF76_2wh),
          ⟨.plain rfl (by intro X; rintro _ _ ⟨rfl, rfl⟩; exact op_load1 rfl tO73wh (Ent.app (Ent.app (Ent.fld hd 2) X) _)),
          ⟨.plain rfl (by intro X; rintro _ _ ⟨rfl, rfl⟩; exact op_lenT rfl tS73wh (Sl.ent (by first | exact Sl.app (by assumption) _ | exact Sl.app (Sl.app (by assumption) _) _))),
          ⟨.plain rfl (by intro X; rintro _ _ ⟨rfl, rfl⟩; exact op_sub' rfl rfl (by omega)),
          trivial⟩⟩⟩⟩⟩⟩⟩⟩⟩⟩ ?_
      rintro _ _ ⟨rfl, rfl⟩ _ _ ⟨rfl, rfl⟩ _ _ ⟨rfl, rfl⟩ _ _ ⟨rfl, rfl⟩ _ _ ⟨rfl, rfl⟩ _ _ ⟨rfl, rfl⟩ _ _ ⟨rfl, rfl⟩ _ _ ⟨rfl, rfl⟩ _ _ ⟨rfl, rfl⟩ _ _ ⟨rfl, rfl⟩
      refine wl_norm (e' := [(17, _), (23, _)]) (.cons rfl (.cons rfl (.nil _))) (by dsimp only [cond_false, cond_true, List.nil_append, List.cons_append]) ?_
      refine zd rfl (op_idxZ rfl rfl tS73wh (Sl.ent (by first | exact Sl.app (by assumption) _ | exact Sl.app (Sl.app (by assumption) _) _)) (by omega) (by omega)) ?_
      refine zd rfl (op_fieldAddr (off := 2) rfl tF87_2wh) (zd rfl (op_ldxf rfl tO3wh (by first | exact Sl.app (by assumption) _ | exact Sl.app (Sl.app (by assumption) _) _) (by assumption) (by rfl)) ?_)
      refine za rfl (wl_nil (st_tn (w_ret (st_ret (vs := [_]) [] Try.results17 ⟨rfl, trivial⟩ rfl ?_))))
      refine ⟨_, rfl, ?_⟩
      rw [lastV_some hb hr]; exact ⟨rfl, rfl⟩
def firstV (v : Lr) : Nat := if v.broken = true then 0 else match v.rows.head? with | none => 1 | some r => r.2.1
theorem firstV_some {v : Lr} (hb : v.broken = false) {r : Nat × Nat × Nat × Nat} (h : v.rows[0]? = some r) : firstV v = r.2.1 := by
  unfold firstV; rw [if_neg (by simp [hb]), List.head?_eq_getElem?, h]
theorem firstV_nil {v : Lr} (hb : v.broken = false) (h : v.rows.length = 0) : firstV v = 1 := by
  have : v.rows = [] := List.eq_nil_of_length_eq_zero h
  unfold firstV; rw [if_neg (by simp [hb]), this]; rfl
set_option maxHeartbeats 400000 in
set_option maxRecDepth 100000 in
theorem first_any {σ : World} {F : List Res} {b d m c cp : Nat} {nm : RdM.Bs} {v : Lr} {a p : Option Addr} (hd : Ent σ F (At ⟨b, 0, none⟩ (cellL d nm v m a c p cp))) (hs : Sl σ F encRow 4 (.slice a v.rows.length c) v.rows) :
    FnT Try.prog σ F 35 [.pointer (some ⟨b, 0, none⟩)] [] (fun u ρ => u = .int .i64 (firstV v : Int) ∧ ρ = []) := by
  refine fn_of 21 Try.func35 rfl Try.ntmps35 rfl ?_
  have hle := hs.i64
  refine w_seq (w_region (za rfl (wl_nil (st_tn (w_seq (w_block (w_seq (w_region (zm rfl (zd rfl (op_fn Try.func42 rfl rfl rfl (lready_any (Ent.app hd _))) (zd rfl (op_neq rfl rfl) (za rfl (wl_nil ?_)))))))))))))
  refine st_tn (w_cond_d rfl (fun hc3 => ?_) (fun hc3 => ?_))
  · -- c3.t
    refine w_seq (w_region (za rfl (wl_nil (st_tn (w_ret (st_br (st_tr (st_ret (vs := [_]) [] Try.results35 ⟨rfl, trivial⟩ rfl ?_))))))))
    refine ⟨_, rfl, ?_⟩
    have h : firstV v = 0 := by unfold firstV; rw [if_pos (ready_t hc3)]
    rw [h]; exact ⟨rfl, rfl⟩
  · -- c3.f
    have hb := ready_f hc3
    refine w_seq (w_region (zm rfl (zd rfl (op_nilCheck rfl) (zd rfl (op_fieldAddr (off := 2) rfl tF76_2wh) (zd rfl (op_load1 rfl tO73wh (Ent.app (Ent.fld hd 2) _)) (zd rfl (op_lenT rfl tS73wh (Sl.ent (by first | exact Sl.app (by assumption) _ | exact Sl.app (Sl.app (by assumption) _) _))) ?_))))))
    refine zd rfl (op_eql rfl rfl) (za rfl (wl_nil (st_tn (w_cond_d rfl (fun hc7 => ?_) (fun hc7 => ?_)))))
    · -- c7.t
      refine w_seq (w_region (za rfl (wl_nil (st_tn (w_ret (st_br (st_tr (st_ret (vs := [_]) [] Try.results35 ⟨rfl, trivial⟩ rfl ?_))))))))
      refine ⟨_, rfl, ?_⟩
      rw [firstV_nil hb (by omega)]; exact ⟨rfl, rfl⟩
    · -- c7.f
      refine w_skip (st_bn (st_tn (w_seq ?_)))
      obtain ⟨r, hr⟩ := getE (l := v.rows) (i := 0) (by omega)
      refine w_region (zm rfl (zd rfl (op_nilCheck rfl) (zd rfl (op_fieldAddr (off := 2) rfl tF76_2wh) (zd rfl (op_load1 rfl tO73wh (Ent.app (Ent.fld hd 2) _)) (zd rfl (op_idx (i := 0) rfl rfl tS73wh (Sl.ent (Sl.app hs _)) (by omega)) ?_)))))
      refine zd rfl (op_fieldAddr (off := 1) rfl tF87_1wh) (zd rfl (op_ldxf rfl tO3wh (by first | exact Sl.app (by assumption) _ | exact Sl.app (Sl.app (by assumption) _) _) (by assumption) (by rfl)) ?_)
      refine za rfl (wl_nil (st_tn (w_ret (st_ret (vs := [_]) [] Try.results35 ⟨rfl, trivial⟩ rfl ?_))))
      refine ⟨_, rfl, ?_⟩
      rw [firstV_some hb hr]; exact ⟨rfl, rfl⟩
set_option maxHeartbeats 400000 in
set_option maxRecDepth 100000 in
theorem pending_any {σ : World} {F : List Res} {b d m c cp : Nat} {nm : RdM.Bs} {v : Lr} {a p : Option Addr} (hd : Ent σ F (At ⟨b, 0, none⟩ (cellL d nm v m a c p cp))) (hp : Sl σ F encT 1 (.slice p v.pend.length cp) v.pend) :
    FnT Try.prog σ F 21 [.pointer (some ⟨b, 0, none⟩)] [] (fun u ρ => u = .int .i64 ((if v.broken = true then 0 else v.pend.length : Nat) : Int) ∧ ρ = []) := by
  refine fn_of 11 Try.func21 rfl Try.ntmps21 rfl ?_
  refine w_seq (w_region (za rfl (wl_nil (st_tn (w_seq (w_seq (w_region (zm rfl (zd rfl (op_fn Try.func42 rfl rfl rfl (lready_any (Ent.app hd _))) (zd rfl (op_neq rfl rfl) (wl_nil (st_tn (w_cond_d rfl (fun hc5 => ?_) (fun hc5 => ?_))))))))))))))
  · -- c5.t
    refine w_seq (w_region (za rfl (wl_nil (st_tn (w_ret (st_tr (st_ret (vs := [_]) [] Try.results21 ⟨rfl, trivial⟩ rfl ?_)))))))
    refine ⟨_, rfl, ?_⟩
    rw [if_pos (ready_t hc5)]; exact ⟨rfl, rfl⟩
  · -- c5.f
    refine w_skip (st_tn (w_seq (w_region (zm rfl (zd rfl (op_nilCheck rfl) (zd rfl (op_fieldAddr (off := 4) rfl tF76_4wh) (zd rfl (op_load1 rfl tO35wh (Ent.app (Ent.fld hd 4) _)) (zd rfl (op_lenT rfl tS35wh (Sl.ent (by first | exact Sl.app (by assumption) _ | exact Sl.app (Sl.app (by assumption) _) _))) ?_))))))))
    refine za rfl (wl_nil (st_tn (w_ret (st_ret (vs := [_]) [] Try.results21 ⟨rfl, trivial⟩ rfl ?_))))
    refine ⟨_, rfl, ?_⟩
    rw [if_neg (by simp [ready_f hc5])]; exact ⟨rfl, rfl⟩
def discV (v : Lr) : Lr := if v.broken = true then v else { v with pend := [] }
set_option maxHeartbeats 400000 in
set_option maxRecDepth 100000 in
theorem discard_any {σ : World} {F : List Res} {b d m c cp : Nat} {nm : RdM.Bs} {v : Lr} {a p : Option Addr} :
    FnT Try.prog σ F 23 [.pointer (some ⟨b, 0, none⟩)] [(611, cel b (cellL d nm v m a c p cp) 76), (614, slW 9 encT 1 (.slice p v.pend.length cp) v.pend)] (fun u ρ => ∃ p' cp', u = .int .i64 (readyL v) ∧ ρ = [(611, cel b (cellL d nm (discV v) m a c p' cp') 76), (614, slW 9 encT 1 (.slice p' (discV v).pend.length cp') (discV v).pend)]) := by
  refine fn_of 12 Try.func23 rfl Try.ntmps23 rfl ?_
  refine w_seq (w_region (za rfl (wl_nil (st_tn (w_seq (w_seq (w_region (zm rfl (zd rfl (op_fn Try.func42 rfl rfl rfl (lready_any (celLg 611 rfl))) (za rfl (wl_nil (st_tn (w_seq ?_)))))))))))))
  refine w_region (zm rfl (zd rfl (op_neq rfl rfl) (wl_nil (st_tn (w_cond_d rfl (fun hc7 => ?_) (fun hc7 => ?_))))))
  · -- c7.t
    refine w_seq (w_region (zm rfl (za rfl (wl_nil (st_tn (w_ret (st_tr (st_ret (vs := [_]) [611, 614] Try.results23 ⟨rfl, trivial⟩ rfl ?_))))))))
    refine ⟨[(611, _), (614, _)], rfl, ?_⟩
    have h : discV v = v := by unfold discV; rw [if_pos (ready_t hc7)]
    rw [h]; exact ⟨p, cp, rfl, rfl⟩
  · -- c7.f
    refine w_skip (st_tn (w_seq (w_region (zm rfl (zd rfl (op_nilCheck rfl) (zd rfl (op_fieldAddr (off := 4) rfl tF76_4wh) (wl_op0 [611] rfl rfl rfl (op_store rfl rfl tZ35wh (by rfl) (by rfl) (by exact Nat.le_of_ble_eq_true rfl)) ?_)))))))
    rintro _ _ ⟨rfl, rfl⟩
    refine wl_nil (st_tn (w_seq (w_emp 615 (slO_nil 9 1) ?_)))
    refine w_region (za rfl (wl_nil (st_tn (w_ret (st_ret (vs := [_]) [611, 615] Try.results23 ⟨rfl, trivial⟩ rfl ?_)))))
    refine ⟨[(611, _), (614, _)], rfl, ?_⟩
    have hb := ready_f hc7
    have h : discV v = { v with pend := [] } := by unfold discV; rw [if_neg (by simp [hb])]
    have h2 : readyL v = 0 := by unfold readyL; rw [if_neg (by simp [hb])]
    rw [h, h2]; exact ⟨none, 0, rfl, rfl⟩
def nextV (v : Lr) : Nat := match v.rows.getLast? with | none => 1 | some r => if v.fresh = true ∨ 8 ≤ r.2.2.2 then r.1 + 1 else r.1
theorem nextV_nil {v : Lr} (h : v.rows.length = 0) : nextV v = 1 := by
  have : v.rows = [] := List.eq_nil_of_length_eq_zero h
  unfold nextV; rw [this]; rfl
theorem nextV_some {v : Lr} {r : Nat × Nat × Nat × Nat} (h : v.rows[((v.rows.length : Int) - 1).toNat]? = some r) (hl : 0 < v.rows.length) : nextV v = if v.fresh = true ∨ 8 ≤ r.2.2.2 then r.1 + 1 else r.1 := by
  have : v.rows.getLast? = some r := by rw [List.getLast?_eq_getElem?, ← h]; congr 1; omega
  unfold nextV; rw [this]
set_option maxHeartbeats 400000 in
set_option maxRecDepth 100000 in
theorem next_any {σ : World} {F : List Res} {b d m c cp : Nat} {nm : RdM.Bs} {v : Lr} {a p : Option Addr} (hd : Ent σ F (At ⟨b, 0, none⟩ (cellL d nm v m a c p cp))) (hs : Sl σ F encRow 4 (.slice a v.rows.length c) v.rows) (hn : ∀ r ∈ v.rows, r.1 ≤ 999999) :
    FnT Try.prog σ F 43 [.pointer (some ⟨b, 0, none⟩)] [] (fun u ρ => u = .int .i64 (nextV v : Int) ∧ ρ = []) := by
  refine fn_of 48 Try.func43 rfl Try.ntmps43 rfl ?_
  have hle := hs.i64
  refine w_seq (w_region (za rfl (wl_nil (st_tn (w_seq (w_region (zm rfl (zd rfl (op_nilCheck rfl) (zd rfl (op_fieldAddr (off := 2) rfl tF76_2wh) (zd rfl (op_load1 rfl tO73wh (Ent.app (Ent.fld hd 2) _)) (zd rfl (op_lenT rfl tS73wh (Sl.ent (by first | exact Sl.app (by assumption) _ | exact Sl.app (Sl.app (by assumption) _) _))) ?_)))))))))))
  refine za rfl (wl_nil (st_tn (w_seq (w_block (w_seq (w_region (zm rfl (zd rfl (op_eql rfl rfl) (za rfl (wl_nil (st_tn (w_cond_d rfl (fun hc9 => ?_) (fun hc9 => ?_)))))))))))))
  · -- c9.t
    refine w_seq (w_region (za rfl (wl_nil (st_tn (w_ret (st_br (st_tr (st_ret (vs := [_]) [] Try.results43 ⟨rfl, trivial⟩ rfl ?_))))))))
    refine ⟨_, rfl, ?_⟩
    rw [nextV_nil (by omega)]; exact ⟨rfl, rfl⟩
  · -- c9.f
    refine w_seq ?_
    obtain ⟨r, hr⟩ := getE (l := v.rows) (i := ((v.rows.length : Int) - 1).toNat) (by omega)
    have hrn := hn r (List.mem_of_getElem? hr)
    have hnx := nextV_some hr (by omega)
    by_cases hf : v.fresh = true
    · -- hf+
      refine w_region (zm rfl (zd rfl (op_nilCheck rfl) (zd rfl (op_fieldAddr (off := 5) rfl tF76_5wh) (zd rfl (op_val (v' := .bool true) (by rw [hf]) (op_load1 rfl tO4wh (Ent.app (Ent.fld hd 5) _))) ?_))))
      refine zm rfl (wl_unwanted rfl rfl rfl rfl rfl rfl rfl rfl (wl_unwanted rfl rfl rfl rfl rfl rfl rfl rfl (wl_unwanted rfl rfl rfl rfl rfl rfl rfl rfl (wl_unwanted rfl rfl rfl rfl rfl rfl rfl rfl (wl_unwanted rfl rfl rfl rfl rfl rfl rfl rfl (wl_unwanted rfl rfl rfl rfl rfl rfl rfl rfl (wl_unwanted rfl rfl rfl rfl rfl rfl rfl rfl (wl_unwanted rfl rfl rfl rfl rfl rfl rfl rfl (wl_unwanted rfl rfl rfl rfl rfl rfl rfl rfl (wl_unwanted rfl rfl rfl rfl rfl rfl rfl rfl (zd rfl (op_pick_t rfl rfl) (za rfl (wl_nil ?_)))))))))))))
      refine st_tn (w_cond_t (rfl) ?_)
      refine w_seq (w_region (zm rfl (zd rfl (op_nilCheck rfl) (zd rfl (op_fieldAddr (off := 2) rfl tF76_2wh) (zd rfl (op_load1 rfl tO73wh (Ent.app (Ent.fld hd 2) _)) (zm rfl (zd rfl (op_sub' rfl rfl (by omega)) ?_)))))))
      refine zd rfl (op_idxZ rfl rfl tS73wh (Sl.ent (by first | exact Sl.app (by assumption) _ | exact Sl.app (Sl.app (by assumption) _) _)) (by omega) (by omega)) ?_
      refine zd rfl (op_fieldAddr (off := 0) rfl tF87_0wh) (zd rfl (op_ldxf rfl tO3wh (by first | exact Sl.app (by assumption) _ | exact Sl.app (Sl.app (by assumption) _) _) (by assumption) (by rfl)) ?_)
      refine zd rfl (op_add' rfl rfl (by omega)) ?_
      refine za rfl (wl_nil (st_tn (w_ret (st_br (st_tr (st_ret (vs := [_]) [] Try.results43 ⟨rfl, trivial⟩ rfl ?_))))))
      refine ⟨_, rfl, ?_⟩
      rw [hnx, if_pos (.inl hf)]; exact ⟨rfl, rfl⟩
    · -- hf-
      have hf : v.fresh = false := by simpa using hf
      refine w_region (zm rfl (zd rfl (op_nilCheck rfl) (zd rfl (op_fieldAddr (off := 5) rfl tF76_5wh) (zd rfl (op_val (v' := .bool false) (by rw [hf]) (op_load1 rfl tO4wh (Ent.app (Ent.fld hd 5) _))) ?_))))
      refine zm rfl (wl_wanted_det rfl rfl rfl rfl rfl rfl rfl (op_move rfl) (wl_wanted_det rfl rfl rfl rfl rfl rfl rfl (op_nilCheck rfl) (wl_wanted_det rfl rfl rfl rfl rfl rfl rfl (op_fieldAddr (off := 2) rfl tF76_2wh) (wl_wanted_det rfl rfl rfl rfl rfl rfl rfl (op_load1 rfl tO73wh (Ent.app (Ent.fld hd 2) _)) (wl_wanted_det rfl rfl rfl rfl rfl rfl rfl (op_move rfl) (wl_wanted_det rfl rfl rfl rfl rfl rfl rfl (op_sub' rfl rfl (by omega)) ?_))))))
      refine wl_wanted_det rfl rfl rfl rfl rfl rfl rfl (op_idxZ rfl rfl tS73wh (Sl.ent (by first | exact Sl.app (by assumption) _ | exact Sl.app (Sl.app (by assumption) _) _)) (by omega) (by omega)) ?_
      refine wl_wanted_det rfl rfl rfl rfl rfl rfl rfl (op_fieldAddr (off := 3) rfl tF87_3wh) (wl_wanted_det rfl rfl rfl rfl rfl rfl rfl (op_ldxf rfl tO3wh (by first | exact Sl.app (by assumption) _ | exact Sl.app (Sl.app (by assumption) _) _) (by assumption) (by rfl)) ?_)
      refine wl_wanted_det rfl rfl rfl rfl rfl rfl rfl (op_geq rfl rfl) (zd rfl (op_pick_f rfl rfl) (za rfl (wl_nil (st_tn (w_cond_d rfl (fun hc12 => ?_) (fun hc12 => ?_))))))
      · -- c12.t
        refine w_seq (w_region (zm rfl (zd rfl (op_nilCheck rfl) (zd rfl (op_fieldAddr (off := 2) rfl tF76_2wh) (zd rfl (op_load1 rfl tO73wh (Ent.app (Ent.fld hd 2) _)) (zm rfl (zd rfl (op_sub' rfl rfl (by omega)) ?_)))))))
        refine zd rfl (op_idxZ rfl rfl tS73wh (Sl.ent (by first | exact Sl.app (by assumption) _ | exact Sl.app (Sl.app (by assumption) _) _)) (by omega) (by omega)) ?_
        refine zd rfl (op_fieldAddr (off := 0) rfl tF87_0wh) (zd rfl (op_ldxf rfl tO3wh (by first | exact Sl.app (by assumption) _ | exact Sl.app (Sl.app (by assumption) _) _) (by assumption) (by rfl)) ?_)
        refine zd rfl (op_add' rfl rfl (by omega)) ?_
        refine za rfl (wl_nil (st_tn (w_ret (st_br (st_tr (st_ret (vs := [_]) [] Try.results43 ⟨rfl, trivial⟩ rfl ?_))))))
        refine ⟨_, rfl, ?_⟩
        rw [hnx, if_pos (.inr (by omega))]; exact ⟨rfl, rfl⟩
      · -- c12.f
        refine w_skip (st_bn (st_tn (w_seq (w_region (zm rfl (zd rfl (op_nilCheck rfl) (zd rfl (op_fieldAddr (off := 2) rfl tF76_2wh) (zd rfl (op_load1 rfl tO73wh (Ent.app (Ent.fld hd 2) _)) (zm rfl (zd rfl (op_sub' rfl rfl (by omega)) ?_))))))))))
        refine zd rfl (op_idxZ rfl rfl tS73wh (Sl.ent (by first | exact Sl.app (by assumption) _ | exact Sl.app (Sl.app (by assumption) _) _)) (by omega) (by omega)) ?_
        refine zd rfl (op_fieldAddr (off := 0) rfl tF87_0wh) (zd rfl (op_ldxf rfl tO3wh (by first | exact Sl.app (by assumption) _ | exact Sl.app (Sl.app (by assumption) _) _) (by assumption) (by rfl)) ?_)
        refine za rfl (wl_nil (st_tn (w_ret (st_ret (vs := [_]) [] Try.results43 ⟨rfl, trivial⟩ rfl ?_))))
        refine ⟨_, rfl, ?_⟩
        rw [hnx, if_neg (fun h => h.elim (fun h => by simp [hf] at h) (fun h => by omega))]; exact ⟨rfl, rfl⟩
end Go.Proofs.Ytcbigmgakdanjaa
namespace Go.Proofs.Ytcbigmgakdanjaa
open Go Go.SL Go.RowKit Go.RdM Go.WalM
set_option linter.unusedVariables false
set_option linter.unusedSimpArgs false
theorem tA87wi : aggB Try.prog 87 4 = true := by kernel_rfl
theorem tF76_2wi : fieldB Try.prog 76 2 2 = true := by kernel_rfl
theorem tF76_4wi : fieldB Try.prog 76 4 4 = true := by kernel_rfl
theorem tF87_0wi : fieldB Try.prog 87 0 0 = true := by kernel_rfl
theorem tL35_1wi : zerosB Try.prog 35 9 1 1 = some [Value.string .empty] := by kernel_rfl
theorem tMixwi : Try.prog.follows .mixedOrders = true := by kernel_rfl
theorem tN87wi : (Try.prog.info? 87).bind (·.zero) = some (Value.agg #[Value.int .i64 0, Value.int .i64 0, Value.int .i64 0, Value.int .i64 0]) := by kernel_rfl
theorem tO3wi : oneB Try.prog 3 = true := by kernel_rfl
theorem tO35wi : oneB Try.prog 35 = true := by kernel_rfl
theorem tO73wi : oneB Try.prog 73 = true := by kernel_rfl
theorem tP35wi : appB Try.prog 35 9 1 16 = true := by kernel_rfl
theorem tS35wi : sliceB Try.prog 35 9 1 = true := by kernel_rfl
theorem tS73wi : sliceB Try.prog 73 87 4 = true := by kernel_rfl
theorem tZ35wi : (Try.prog.info? 35).map (·.size) = some 1 := by kernel_rfl
theorem tZ87wi : (Try.prog.info? 87).map (·.size) = some 4 := by kernel_rfl
def encSV (x : List UInt8) : Value := .string (str x)
def IsMap (l : List (Int × List UInt8)) (first : Nat) (all : List RdM.Bs) : Prop := (l.map Prod.fst).Nodup ∧ l.length = all.length ∧ ∀ k, lookK KZ l k = if (first : Int) ≤ k then all[(k - first).toNat]? else none
def appV (v : Lr) (r : RdM.Bs) : (Int × Int) × Lr :=
  if v.broken = true then ((0, 18), v)
  else if 65536 < r.length then ((0, 5), v)
  else if 256 ≤ v.pend.length then ((0, 6), v)
  else ((((lastV v + (v.pend.length + 1) : Nat) : Int), 0), { v with pend := v.pend ++ [r] })
set_option maxHeartbeats 400000 in
set_option maxRecDepth 100000 in
theorem lappend_any {σ : World} {F : List Res} {b d m c cp : Nat} {nm : RdM.Bs} {v : Lr} {a p : Option Addr} (r : RdM.Bs) (hlast : lastV v ≤ 1099511627776) (hrl : r.length ≤ 1099511627776) (hpl : v.pend.length ≤ 1099511627776) (hs : Sl σ F encRow 4 (.slice a v.rows.length c) v.rows) :
    FnT Try.prog σ F 14 [.pointer (some ⟨b, 0, none⟩), .string (str r)] [(611, cel b (cellL d nm v m a c p cp) 76), (614, slW 9 encT 1 (.slice p v.pend.length cp) v.pend)] (fun u ρ => ∃ p' cp', u = .tuple #[.int .i64 (appV v r).1.1, .int .i64 (appV v r).1.2] ∧ ρ = [(611, cel b (cellL d nm (appV v r).2 m a c p' cp') 76), (614, slW 9 encT 1 (.slice p' (appV v r).2.pend.length cp') (appV v r).2.pend)]) := by
  refine fn_of 41 Try.func14 rfl Try.ntmps14 rfl ?_
  refine w_seq (w_region (za rfl (za rfl (wl_nil (st_tn (w_seq (w_seq (w_region (zm rfl (zd rfl (op_fn Try.func42 rfl rfl rfl (lready_any (celLg 611 rfl))) (za rfl (wl_nil (st_tn ?_)))))))))))))
  refine w_seq (w_region (zm rfl (zd rfl (op_neq rfl rfl) (wl_nil (st_tn (w_cond_d rfl (fun hc10 => ?_) (fun hc10 => ?_)))))))
  · -- c10.t
    refine w_seq (w_region (zm rfl (za rfl (za rfl (wl_nil (st_tn (w_ret (st_tr (st_ret (vs := [_, _]) [611, 614] Try.results14 ⟨rfl, ⟨rfl, trivial⟩⟩ rfl ?_)))))))))
    refine ⟨[(611, _), (614, _)], rfl, ?_⟩
    have h : appV v r = ((0, readyL v), v) := by unfold appV readyL; rw [if_pos (ready_t (by assumption)), if_pos (ready_t (by assumption))]
    rw [h]; exact ⟨p, cp, rfl, rfl⟩
  · -- c10.f
    have hb := ready_f hc10
    have hbf : ¬ v.broken = true := by simp [hb]
    refine w_skip (st_tn (w_seq (w_block (w_seq (w_region (zm rfl (zd rfl (op_lenBs rfl Try.underlying9) (zd rfl (op_gtr rfl rfl) (za rfl (wl_nil (st_tn (w_cond_d rfl (fun hc12 => ?_) (fun hc12 => ?_)))))))))))))
    · -- c12.t
      refine w_seq (w_region (za rfl (za rfl (wl_nil (st_tn (w_ret (st_br (st_tr (st_ret (vs := [_, _]) [611, 614] Try.results14 ⟨rfl, ⟨rfl, trivial⟩⟩ rfl ?_)))))))))
      refine ⟨[(611, _), (614, _)], rfl, ?_⟩
      have h : appV v r = ((0, 5), v) := by unfold appV; rw [if_neg hbf, if_pos (by omega)]
      rw [h]; exact ⟨p, cp, rfl, rfl⟩
    · -- c12.f
      refine w_seq (w_region (zm rfl (zd rfl (op_nilCheck rfl) (zd rfl (op_fieldAddr (off := 4) rfl tF76_4wi) (zd rfl (op_load1 rfl tO35wi (Ent.lab (l := 611) rfl (says_cel 4))) (zd rfl (op_lenT rfl tS35wi (Sl.ent (Sl.lab 614 rfl (by first | (unfold maxLen; omega) | (unfold maxLen; simp; omega))))) ?_))))))
      refine zd rfl (op_geq rfl rfl) (za rfl (wl_nil (st_tn (w_cond_d rfl (fun hc16 => ?_) (fun hc16 => ?_)))))
      · -- c16.t
        refine w_seq (w_region (za rfl (za rfl (wl_nil (st_tn (w_ret (st_br (st_tr (st_ret (vs := [_, _]) [611, 614] Try.results14 ⟨rfl, ⟨rfl, trivial⟩⟩ rfl ?_)))))))))
        refine ⟨[(611, _), (614, _)], rfl, ?_⟩
        have h : appV v r = ((0, 6), v) := by unfold appV; rw [if_neg hbf, if_neg (by omega), if_pos (by omega)]
        rw [h]; exact ⟨p, cp, rfl, rfl⟩
      · -- c16.f
        refine w_skip (st_bn (st_tn (w_seq (w_region (zm rfl (zm rfl (zd rfl (op_nilCheck rfl) (zd rfl (op_fieldAddr (off := 4) rfl tF76_4wi) (zd rfl (op_load1 rfl tO35wi (Ent.lab (l := 611) rfl (says_cel 4))) (zm rfl (wl_op [] rfl rfl rfl rfl (op_buildSlice (enc := encT) (l := [r]) (lab := 29) tL35_1wi rfl rfl (fun _ => rfl) rfl) ?_)))))))))))
        rintro _ _ ⟨a29, c29, rfl, rfl⟩
        refine wl_op [614] rfl rfl rfl rfl (op_append (lab := 614) (lab' := 30) rfl rfl tP35wi enc1T (Sl.lab 29 rfl (by simp [maxLen])) (by simp; omega) (by simp; omega)) ?_
        rintro _ _ ⟨a30, c30, rfl, rfl⟩
        refine zd rfl (op_nilCheck rfl) (zd rfl (op_fieldAddr (off := 4) rfl tF76_4wi) (wl_op0 [611] rfl rfl rfl (op_store rfl rfl tZ35wi (by rfl) (by rfl) (by exact Nat.le_of_ble_eq_true rfl)) ?_))
        rintro _ _ ⟨rfl, rfl⟩
        refine wl_nil (st_tn (w_seq ?_))
        refine w_draw (D := [⟨33, [], [], [], _, false, [], []⟩, ⟨34, [0], [], [], _, false, [], []⟩, ⟨35, [], [], [], _, false, [], []⟩, ⟨36, [2], [], [], _, false, [], []⟩, ⟨37, [3], [], [], _, false, [], []⟩, ⟨38, [4], [], [], _, false, [], []⟩, ⟨39, [5], [], [], _, false, [], []⟩]) [] [0] [⟨33, [], [], false, [], []⟩, ⟨34, [0], [], false, [], []⟩, ⟨35, [], [], false, [], []⟩, ⟨36, [2], [], false, [], []⟩, ⟨37, [3], [], false, [], []⟩, ⟨38, [4], [], false, [], []⟩, ⟨39, [5], [], false, [], []⟩] tMixwi (by rfl) (by kernel_rfl) (by rfl) (by rfl)
            ⟨.plain rfl (by intro X; exact op_move rfl),
            ⟨.plain rfl (by intro X; rintro _ _ ⟨rfl, rfl⟩; exact op_val (v' := .int .i64 (lastV v : Int)) (by rfl) (op_fn Try.func17 rfl rfl rfl (last_any (v := { v with pend := v.pend ++ [r] }) (p := a30) (cp := c30) (celLg 611 rfl) (Sl.app (Sl.app hs X) _)))),
            ⟨.plain rfl (by intro X; exact op_move rfl),
            ⟨.plain rfl (by intro X; rintro _ _ ⟨rfl, rfl⟩; exact op_nilCheck rfl),
            ⟨.plain rfl (by intro X; rintro _ _ ⟨rfl, rfl⟩; exact op_fieldAddr (off := 4) rfl tF76_4wi),
            ⟨.plain rfl (by intro X; rintro _ _ ⟨rfl, rfl⟩; exact op_load1 rfl tO35wi (Ent.lab (l := 611) rfl (says_cel 4))),
            ⟨.plain rfl (by intro X; rintro _ _ ⟨rfl, rfl⟩; exact op_lenT (l := v.pend ++ [r]) rfl tS35wi (Sl.ent (Sl.lab (l := v.pend ++ [r]) 30 rfl (by unfold maxLen; simp; omega)))),
            trivial⟩⟩⟩⟩⟩⟩⟩ ?_
        rintro _ _ ⟨rfl, rfl⟩ _ _ ⟨rfl, rfl⟩ _ _ ⟨rfl, rfl⟩ _ _ ⟨rfl, rfl⟩ _ _ ⟨rfl, rfl⟩ _ _ ⟨rfl, rfl⟩ _ _ ⟨rfl, rfl⟩
        refine wl_norm (e' := [(34, _), (39, _)]) (.cons rfl (.cons rfl (.nil _))) (by dsimp only [cond_false, cond_true, List.nil_append, List.cons_append]) ?_
        refine zd rfl (op_add' rfl rfl (by rw [List.length_append, List.length_singleton]; omega)) ?_
        refine za rfl (za rfl (wl_nil (st_tn (w_ret (st_ret (vs := [_, _]) [611, 30] Try.results14 ⟨rfl, ⟨rfl, trivial⟩⟩ rfl ?_)))))
        refine ⟨[(611, _), (614, _)], rfl, ?_⟩
        have h : appV v r = ((((lastV v + (v.pend.length + 1) : Nat) : Int), 0), { v with pend := v.pend ++ [r] }) := by unfold appV; rw [if_neg hbf, if_neg (by omega), if_neg (by omega)]
        rw [h]
        refine ⟨a30, c30, ?_, rfl⟩
        have e2 : ((v.pend ++ [r]).length : Int) = v.pend.length + 1 := by simp
        rw [e2, show ((lastV v + (v.pend.length + 1) : Nat) : Int) = (lastV v : Int) + (v.pend.length + 1) by omega]
        rfl
set_option maxHeartbeats 400000 in
set_option maxRecDepth 100000 in
theorem segm_any {σ : World} {F : List Res} {b d m c cp : Nat} {nm : RdM.Bs} {v : Lr} {a p : Option Addr} (lab : Nat) (hd : Ent σ F (At ⟨b, 0, none⟩ (cellL d nm v m a c p cp))) (hs : Sl σ F encRow 4 (.slice a v.rows.length c) v.rows) (hn : ∀ r ∈ v.rows, r.1 ≤ 999999) (hl : v.rows.length ≤ 1099511627776) (hnm : nm.length ≤ 64) :
    FnT Try.prog σ F 18 [.pointer (some ⟨b, 0, none⟩)] [] (fun u ρ => ∃ a' c', u = .slice a' (if v.broken = true then [] else v.rows.map fun r => fileN nm r.1).length c' ∧ ρ = [(lab, slW 9 encT 1 (.slice a' (if v.broken = true then [] else v.rows.map fun r => fileN nm r.1).length c') (if v.broken = true then [] else v.rows.map fun r => fileN nm r.1))]) := by
  refine fn_of 27 Try.func18 rfl Try.ntmps18 rfl ?_
  refine w_seq (w_region (za rfl (wl_nil (st_tn (w_seq (w_seq (w_region (zm rfl (zd rfl (op_fn Try.func42 rfl rfl rfl (lready_any (Ent.app hd _))) (zd rfl (op_neq rfl rfl) (wl_nil (st_tn (w_cond_d rfl (fun hc8 => ?_) (fun hc8 => ?_))))))))))))))
  · -- c8.t
    refine w_seq (w_region (za rfl (wl_nil (st_tn ?_))))
    rw [if_pos (ready_t hc8)]
    refine w_emp 77 (slO_nil 9 1) ?_
    refine w_ret (st_tr (st_ret (vs := [_]) [77] Try.results18 ⟨rfl, trivial⟩ rfl ?_))
    refine ⟨[(lab, _)], rfl, ?_⟩
    exact ⟨none, 0, rfl, rfl⟩
  · -- c8.f
    have hb := ready_f hc8
    rw [if_neg (show ¬ v.broken = true by simp [hb])]
    refine w_skip (st_tn (w_seq (w_region (za rfl (wl_nil (st_tn (w_seq (w_seq (w_region (zm rfl (zd rfl (op_nilCheck rfl) (zd rfl (op_fieldAddr (off := 2) rfl tF76_2wi) (zd rfl (op_load1 rfl tO73wi (Ent.app (Ent.fld hd 2) _)) ?_)))))))))))))
    refine zd rfl (op_lenT rfl tS73wi (Sl.ent (by first | exact Sl.app (by assumption) _ | exact Sl.app (Sl.app (by assumption) _) _))) ?_
    refine zm rfl (wl_nil (st_tn (w_block (w_emp 3 (slO_nil 9 1) ?_))))
    refine w_loopQ (X := List (List UInt8) × Option Addr × Nat × Nat) (fun z => z.2.2.2 ≤ v.rows.length ∧ z.1 = (v.rows.map fun r => fileN nm r.1).take z.2.2.2) (fun z => [(3, .slice (z.2.1) (z.1).length (z.2.2.1)), (14, .int .i64 (z.2.2.2))]) (fun z => [(3, slW 9 encT 1 (.slice (z.2.1) (z.1).length (z.2.2.1)) (z.1))]) (fun z => v.rows.length - z.2.2.2) (([], none, 0, 0)) [(0, _), (12, _), (13, _)] [] [3] rfl (rfl) (.cons rfl (.cons rfl (.nil _))) (.cons rfl (.cons rfl (.cons rfl (.nil _)))) (by
        try dsimp only
        exact ⟨Nat.zero_le _, by simp⟩) ?_
    rintro ⟨out, a_out, c_out, i⟩ ⟨hi, hout⟩
    refine w_norm2 (by dsimp only [List.cons_append, List.nil_append]) (by dsimp only [List.cons_append, List.nil_append]) ?_
    try dsimp only at hi hout ⊢
    refine w_seq (w_region (zd rfl (op_lss rfl rfl) (wl_nil (st_tn (w_seq (w_cond_d rfl (fun hc15 => ?_) (fun hc15 => ?_)))))))
    · -- c15.t
      obtain ⟨r, hr⟩ := getE (l := v.rows) (i := i) (by omega)
      have hrn := hn r (List.mem_of_getElem? hr)
      have hol : out.length ≤ v.rows.length := by rw [hout, List.length_take, List.length_map]; omega
      refine w_skip (st_tn (w_seq (w_block (w_seq (w_region (zd rfl (op_idx rfl rfl tS73wi (Sl.ent (by first | exact Sl.app (by assumption) _ | exact Sl.app (Sl.app (by assumption) _) _)) (by omega)) ?_))))))
      refine zd rfl (op_ldxA rfl tA87wi (by first | exact Sl.app (by assumption) _ | exact Sl.app (Sl.app (by assumption) _) _) (by assumption) (by rfl) (by rfl)) ?_
      refine wl_op [] rfl rfl rfl rfl (op_alloc (l := 5) tN87wi) ?_
      rintro _ _ ⟨b5, rfl, rfl⟩
      refine wl_op0 [5] rfl rfl rfl (op_store rfl rfl tZ87wi (by rfl) (by rfl) (by exact Nat.le_of_ble_eq_true rfl)) ?_
      rintro _ _ ⟨rfl, rfl⟩
      refine wl_nil (st_tn (w_region (zm rfl (zm rfl (zd rfl (op_fieldAddr (off := 0) rfl tF87_0wi) (zd rfl (op_load1 rfl tO3wi (Ent.lab (l := 5) rfl (says_cel 0))) (zd rfl (op_fn Try.func45 rfl rfl rfl (file_any r.1 hrn hnm (Ent.app hd _))) (wl_op [] rfl rfl rfl rfl (op_buildSlice (enc := encT) (l := [fileN nm r.1]) (lab := 23) tL35_1wi rfl rfl (fun _ => rfl) rfl) ?_))))))))
      rintro _ _ ⟨a23, c23, rfl, rfl⟩
      refine wl_op [3] rfl rfl rfl rfl (op_append (lab := 3) (lab' := 24) rfl rfl tP35wi enc1T (Sl.lab 23 rfl (by simp [maxLen])) (by simp; omega) (by simp; omega)) ?_
      rintro _ _ ⟨a24, c24, rfl, rfl⟩
      refine za rfl (wl_nil (st_bn (st_tn (w_region (zd rfl (op_add' rfl rfl (by omega)) ?_)))))
      refine zm rfl (wl_nil ?_)
      refine st_roundQ (x := (out, a_out, c_out, i)) ((out ++ [fileN nm r.1], _, _, i + 1)) [24] rfl (rfl) (.cons rfl (.cons rfl (.nil _))) (.cons rfl (.cons rfl (.cons rfl (.nil _)))) (by
          try dsimp only
          exact ⟨by omega, by rw [hout, take_snoc (x := fileN nm r.1) (by rw [List.getElem?_map, hr]; rfl)]⟩) (by
          try dsimp only
          omega)
    · -- c15.f
      refine w_exit (st_te ?_)
      refine st_te ?_
      refine st_be (st_tn (w_seq (w_region (zm rfl (za rfl (wl_nil (st_tn (w_ret (st_ret (vs := [_]) [3] Try.results18 ⟨rfl, trivial⟩ rfl ?_)))))))))
      refine ⟨[(lab, _)], rfl, ?_⟩
      have hfin : out = v.rows.map fun r => fileN nm r.1 := by rw [hout, take_all (by rw [List.length_map]; omega)]
      rw [hfin]; exact ⟨_, _, rfl, rfl⟩
end Go.Proofs.Ytcbigmgakdanjaa
namespace Go.Proofs.Ytcbigmgakdanjaa
open Go Go.SL Go.RowKit Go.RdM Go.WalM
set_option linter.unusedVariables false
set_option linter.unusedSimpArgs false
theorem tF76_3wj : fieldB Try.prog 76 3 3 = true := by kernel_rfl
theorem tL35_1wj : zerosB Try.prog 35 9 1 1 = some [Value.string .empty] := by kernel_rfl
theorem tN9wj : (Try.prog.info? 9).bind (·.zero) = some (Value.string .empty) := by kernel_rfl
theorem tO74wj : oneB Try.prog 74 = true := by kernel_rfl
theorem tP35wj : appB Try.prog 35 9 1 16 = true := by kernel_rfl
theorem tQ74wj : mapB Try.prog 74 3 9 KZ.desc := ⟨Try.underlying74, Try.underlying3⟩
def Recs (v : Lr) (l : List (Int × List UInt8)) (all : List RdM.Bs) : Prop := v.broken = false → IsMap l (firstV v) all ∧ lastV v + 1 = firstV v + all.length
def rdE (v : Lr) (n : Int) : Int := if v.broken = true then 18 else if n < 1 ∨ (lastV v : Int) < n then 10 else if n < firstV v then 30 else 0
def repE (v : Lr) (n : Int) : Int := if v.broken = true then 18 else if n < 1 ∨ (lastV v : Int) + 1 < n then 10 else if n < firstV v then 30 else 0
def rdS (v : Lr) (all : List RdM.Bs) (n : Int) : RdM.Bs := if rdE v n = 0 then (all[(n - firstV v).toNat]?).getD [] else []
def repS (v : Lr) (all : List RdM.Bs) (n : Int) : List RdM.Bs := if repE v n = 0 then all.drop (n - firstV v).toNat else []
set_option maxHeartbeats 1000000 in
set_option maxRecDepth 100000 in
theorem lread_any {σ : World} {F : List Res} {b d m c cp : Nat} {nm : RdM.Bs} {v : Lr} {a p : Option Addr} {l : List (Int × List UInt8)} {all : List RdM.Bs} (n : Int) (hn : -9223372036854775808 ≤ n ∧ n ≤ 9223372036854775807) (hr : Recs v l all) (hlast : lastV v ≤ 1099511627776) (hd : Ent σ F (At ⟨b, 0, none⟩ (cellL d nm v m a c p cp))) (hs : Sl σ F encRow 4 (.slice a v.rows.length c) v.rows) (hm' : Mr σ F KZ encSV (.map (some m)) l) :
    FnT Try.prog σ F 30 [.pointer (some ⟨b, 0, none⟩), .int .i64 n] [] (fun u ρ => u = .tuple #[.string (str (rdS v all n)), .int .i64 (rdE v n)] ∧ ρ = []) := by
  refine fn_of 32 Try.func30 rfl Try.ntmps30 rfl ?_
  refine w_seq (w_region (za rfl (za rfl (wl_nil (st_tn (w_seq (w_seq (w_region (zm rfl (zd rfl (op_fn Try.func42 rfl rfl rfl (lready_any (Ent.app hd _))) (za rfl (wl_nil (st_tn ?_)))))))))))))
  refine w_seq (w_region (zm rfl (zd rfl (op_neq rfl rfl) (wl_nil (st_tn (w_cond_d rfl (fun hc10 => ?_) (fun hc10 => ?_)))))))
  · -- c10.t
    refine w_seq (w_region (zm rfl (za rfl (za rfl (wl_nil (st_tn (w_ret (st_tr (st_ret (vs := [_, _]) [] Try.results30 ⟨rfl, ⟨rfl, trivial⟩⟩ rfl ?_)))))))))
    refine ⟨_, rfl, ?_⟩
    have hb := ready_t hc10
    have h1 : rdE v n = 18 := by unfold rdE; rw [if_pos hb]
    have h2 : readyL v = 18 := by unfold readyL; rw [if_pos hb]
    have h3 : rdS v all n = [] := by unfold rdS; rw [h1]; rfl
    rw [h3, h1, h2]; exact ⟨rfl, rfl⟩
  · -- c10.f
    have hb := ready_f hc10
    have hbf : ¬ v.broken = true := by simp [hb]
    obtain ⟨⟨_, _, hmap⟩, hlen⟩ := hr hb
    have hlk := hmap n
    refine w_skip (st_tn (w_seq (w_block (w_seq (w_cutL [(12, .bool (decide (n < 1 ∨ (lastV v : Int) < n)))] [0, 1] [] rfl (fun K' hK => ?_) ?_)))))
    · -- cut r4
      refine w_region (zm rfl (zd rfl (op_lss rfl rfl) (zm rfl (wl_gsplit (t := 15) rfl (fun hg15 => ?_) (fun hg15 => ?_)))))
      · -- 15 is True
        refine wl_unwanted rfl rfl rfl rfl rfl rfl rfl rfl (wl_unwanted rfl rfl rfl rfl rfl rfl rfl rfl (wl_unwanted rfl rfl rfl rfl rfl rfl rfl rfl (wl_unwanted rfl rfl rfl rfl rfl rfl rfl rfl (zd rfl (op_pick_t rfl rfl) (za rfl (wl_nil (st_tn ?_)))))))
        exact cut_done1 [] hK rfl (by first | (rw [decide_eq_decide]; omega) | (symm; rw [decide_eq_false_iff_not]; omega) | (symm; rw [decide_eq_true_iff]; omega) | (simp; done) | (simp; omega) | (simp [*]; done) | (simp [*]; omega)) (by rfl) rfl rfl
      · -- 15 is False
        refine wl_wanted_det rfl rfl rfl rfl rfl rfl rfl (op_move rfl) (wl_wanted_det rfl rfl rfl rfl rfl rfl rfl (op_move rfl) (wl_wanted_det rfl rfl rfl rfl rfl rfl rfl (op_fn Try.func17 rfl rfl rfl (last_any (Ent.app hd _) (Sl.app hs _))) (wl_wanted_det rfl rfl rfl rfl rfl rfl rfl (op_gtr rfl rfl) (zd rfl (op_pick_f rfl rfl) (za rfl (wl_nil (st_tn ?_)))))))
        exact cut_done1 [] hK rfl (by first | (rw [decide_eq_decide]; omega) | (symm; rw [decide_eq_false_iff_not]; omega) | (symm; rw [decide_eq_true_iff]; omega) | (simp; done) | (simp; omega) | (simp [*]; done) | (simp [*]; omega)) (by rfl) rfl rfl
    · -- behind r4
      show W _ _ _ _ _ [(12, _), (0, _), (1, _)] [] _
      refine w_cond_d rfl (fun hc12 => ?_) (fun hc12 => ?_)
      · -- c12.t
        refine w_seq (w_region (za rfl (za rfl (wl_nil (st_tn (w_ret (st_br (st_tr (st_ret (vs := [_, _]) [] Try.results30 ⟨rfl, ⟨rfl, trivial⟩⟩ rfl ?_)))))))))
        refine ⟨_, rfl, ?_⟩
        have h1 : rdE v n = 10 := by unfold rdE; rw [if_neg hbf, if_pos (by assumption)]
        have h3 : rdS v all n = [] := by unfold rdS; rw [h1]; rfl
        rw [h3, h1]; exact ⟨rfl, rfl⟩
      · -- c12.f
        refine w_seq (w_region (zm rfl (zm rfl (zd rfl (op_fn Try.func35 rfl rfl rfl (first_any (Ent.app hd _) (Sl.app hs _))) (zd rfl (op_lss rfl rfl) (za rfl (wl_nil (st_tn (w_cond_d rfl (fun hc21 => ?_) (fun hc21 => ?_))))))))))
        · -- c21.t
          refine w_seq (w_region (za rfl (za rfl (wl_nil (st_tn (w_ret (st_br (st_tr (st_ret (vs := [_, _]) [] Try.results30 ⟨rfl, ⟨rfl, trivial⟩⟩ rfl ?_)))))))))
          refine ⟨_, rfl, ?_⟩
          have h1 : rdE v n = 30 := by unfold rdE; rw [if_neg hbf, if_neg hc12, if_pos (by assumption)]
          have h3 : rdS v all n = [] := by unfold rdS; rw [h1]; rfl
          rw [h3, h1]; exact ⟨rfl, rfl⟩
        · -- c21.f
          refine w_skip (st_bn (st_tn (w_seq ?_)))
          obtain ⟨x, hx⟩ := getE (l := all) (i := (n - firstV v).toNat) (by omega)
          have hlv : lookK KZ l n = some x := by rw [hlk, if_pos (by omega), hx]
          refine w_region (zm rfl (zd rfl (op_nilCheck rfl) (zd rfl (op_fieldAddr (off := 3) rfl tF76_3wj) (zd rfl (op_load1 rfl tO74wj (Ent.app (Ent.fld hd 3) _)) (zm rfl (zd rfl (op_val (v' := .string (str x)) (by rw [hlv]; rfl) (op_lookup (kt := KZ) (encV := encSV) rfl rfl tQ74wj tN9wj (Ent.app hm' _))) ?_))))))
          refine za rfl (za rfl (wl_nil (st_tn (w_ret (st_ret (vs := [_, _]) [] Try.results30 ⟨rfl, ⟨rfl, trivial⟩⟩ rfl ?_)))))
          refine ⟨_, rfl, ?_⟩
          have h1 : rdE v n = 0 := by unfold rdE; rw [if_neg hbf, if_neg hc12, if_neg (by assumption)]
          have h3 : rdS v all n = x := by unfold rdS; rw [if_pos h1, hx]; rfl
          rw [h3, h1]; exact ⟨rfl, rfl⟩
set_option maxHeartbeats 1000000 in
set_option maxRecDepth 100000 in
theorem replay_any {σ : World} {F : List Res} {b d m c cp : Nat} {nm : RdM.Bs} {v : Lr} {a p : Option Addr} {l : List (Int × List UInt8)} {all : List RdM.Bs} (lab : Nat) (n : Int) (hn : -9223372036854775808 ≤ n ∧ n ≤ 9223372036854775807) (hr : Recs v l all) (hlast : lastV v ≤ 1099511627776) (hd : Ent σ F (At ⟨b, 0, none⟩ (cellL d nm v m a c p cp))) (hs : Sl σ F encRow 4 (.slice a v.rows.length c) v.rows) (hm' : Mr σ F KZ encSV (.map (some m)) l) :
    FnT Try.prog σ F 24 [.pointer (some ⟨b, 0, none⟩), .int .i64 n] [] (fun u ρ => ∃ a' c', u = .tuple #[.slice a' (repS v all n).length c', .int .i64 (repE v n)] ∧ ρ = [(lab, slW 9 encT 1 (.slice a' (repS v all n).length c') (repS v all n))]) := by
  refine fn_of 46 Try.func24 rfl Try.ntmps24 rfl ?_
  refine w_seq (w_region (za rfl (za rfl (wl_nil (st_tn (w_seq (w_seq (w_region (zm rfl (zd rfl (op_fn Try.func42 rfl rfl rfl (lready_any (Ent.app hd _))) (za rfl (wl_nil (st_tn ?_)))))))))))))
  refine w_seq (w_region (zm rfl (zd rfl (op_neq rfl rfl) (wl_nil (st_tn (w_cond_d rfl (fun hc12 => ?_) (fun hc12 => ?_)))))))
  · -- c12.t
    refine w_seq (w_region (zm rfl (za rfl (za rfl (wl_nil (st_tn (w_emp 77 (slO_nil 9 1) ?_)))))))
    refine w_ret (st_tr (st_ret (vs := [_, _]) [77] Try.results24 ⟨rfl, ⟨rfl, trivial⟩⟩ rfl ?_))
    refine ⟨[(lab, _)], rfl, ?_⟩
    have hb := ready_t hc12
    have h1 : repE v n = 18 := by unfold repE; rw [if_pos hb]
    have h2 : readyL v = 18 := by unfold readyL; rw [if_pos hb]
    have h3 : repS v all n = [] := by unfold repS; rw [h1]; rfl
    rw [h3, h1, h2]; exact ⟨none, 0, rfl, rfl⟩
  · -- c12.f
    have hb := ready_f hc12
    have hbf : ¬ v.broken = true := by simp [hb]
    obtain ⟨⟨_, _, hmap⟩, hlen⟩ := hr hb
    refine w_skip (st_tn (w_seq (w_block (w_seq (w_cutL [(14, .bool (decide (n < 1 ∨ (lastV v : Int) + 1 < n)))] [0, 1] [] rfl (fun K' hK => ?_) ?_)))))
    · -- cut r4
      refine w_region (zm rfl (zd rfl (op_lss rfl rfl) (zm rfl (wl_gsplit (t := 17) rfl (fun hg17 => ?_) (fun hg17 => ?_)))))
      · -- 17 is True
        refine wl_unwanted rfl rfl rfl rfl rfl rfl rfl rfl (wl_unwanted rfl rfl rfl rfl rfl rfl rfl rfl (wl_unwanted rfl rfl rfl rfl rfl rfl rfl rfl (wl_unwanted rfl rfl rfl rfl rfl rfl rfl rfl (wl_unwanted rfl rfl rfl rfl rfl rfl rfl rfl (zd rfl (op_pick_t rfl rfl) (za rfl (wl_nil (st_tn ?_))))))))
        exact cut_done1 [] hK rfl (by first | (rw [decide_eq_decide]; omega) | (symm; rw [decide_eq_false_iff_not]; omega) | (symm; rw [decide_eq_true_iff]; omega) | (simp; done) | (simp; omega) | (simp [*]; done) | (simp [*]; omega)) (by rfl) rfl rfl
      · -- 17 is False
        refine wl_wanted_det rfl rfl rfl rfl rfl rfl rfl (op_move rfl) (wl_wanted_det rfl rfl rfl rfl rfl rfl rfl (op_move rfl) (wl_wanted_det rfl rfl rfl rfl rfl rfl rfl (op_fn Try.func17 rfl rfl rfl (last_any (Ent.app hd _) (Sl.app hs _))) (wl_wanted_det rfl rfl rfl rfl rfl rfl rfl (op_add' rfl rfl (by omega)) ?_)))
        refine wl_wanted_det rfl rfl rfl rfl rfl rfl rfl (op_gtr rfl rfl) (zd rfl (op_pick_f rfl rfl) (za rfl (wl_nil (st_tn ?_))))
        exact cut_done1 [] hK rfl (by first | (rw [decide_eq_decide]; omega) | (symm; rw [decide_eq_false_iff_not]; omega) | (symm; rw [decide_eq_true_iff]; omega) | (simp; done) | (simp; omega) | (simp [*]; done) | (simp [*]; omega)) (by rfl) rfl rfl
    · -- behind r4
      show W _ _ _ _ _ [(14, _), (0, _), (1, _)] [] _
      refine w_cond_d rfl (fun hc14 => ?_) (fun hc14 => ?_)
      · -- c14.t
        refine w_seq (w_region (za rfl (za rfl (wl_nil (st_tn (w_emp 77 (slO_nil 9 1) ?_))))))
        refine w_ret (st_br (st_tr (st_ret (vs := [_, _]) [77] Try.results24 ⟨rfl, ⟨rfl, trivial⟩⟩ rfl ?_)))
        refine ⟨[(lab, _)], rfl, ?_⟩
        have h1 : repE v n = 10 := by unfold repE; rw [if_neg hbf, if_pos (by assumption)]
        have h3 : repS v all n = [] := by unfold repS; rw [h1]; rfl
        rw [h3, h1]; exact ⟨none, 0, rfl, rfl⟩
      · -- c14.f
        refine w_seq (w_region (zm rfl (zm rfl (zd rfl (op_fn Try.func35 rfl rfl rfl (first_any (Ent.app hd _) (Sl.app hs _))) (zd rfl (op_lss rfl rfl) (za rfl (wl_nil (st_tn (w_cond_d rfl (fun hc24 => ?_) (fun hc24 => ?_))))))))))
        · -- c24.t
          refine w_seq (w_region (za rfl (za rfl (wl_nil (st_tn (w_emp 77 (slO_nil 9 1) ?_))))))
          refine w_ret (st_br (st_tr (st_ret (vs := [_, _]) [77] Try.results24 ⟨rfl, ⟨rfl, trivial⟩⟩ rfl ?_)))
          refine ⟨[(lab, _)], rfl, ?_⟩
          have h1 : repE v n = 30 := by unfold repE; rw [if_neg hbf, if_neg hc14, if_pos (by assumption)]
          have h3 : repS v all n = [] := by unfold repS; rw [h1]; rfl
          rw [h3, h1]; exact ⟨none, 0, rfl, rfl⟩
        · -- c24.f
          refine w_skip (st_bn (st_tn (w_seq (w_region (za rfl (wl_nil (st_tn (w_seq (w_seq (w_region (zm rfl (za rfl (wl_nil ?_)))))))))))))
          refine st_tn (w_block (w_emp 7 (slO_nil 9 1) ?_))
          refine w_loopQ (X := List (List UInt8) × Option Addr × Nat × Int) (fun z => n ≤ z.2.2.2 ∧ z.2.2.2 ≤ (lastV v : Int) + 1 ∧ z.1 = (all.drop (n - firstV v).toNat).take (z.2.2.2 - n).toNat) (fun z => [(7, .slice (z.2.1) (z.1).length (z.2.2.1)), (8, .int .i64 (z.2.2.2))]) (fun z => [(7, slW 9 encT 1 (.slice (z.2.1) (z.1).length (z.2.2.1)) (z.1))]) (fun z => ((lastV v : Int) + 1 - z.2.2.2).toNat) (([], none, 0, n)) [(0, _)] [] [7] rfl (rfl) (.cons rfl (.cons rfl (.nil _))) (.cons rfl (.nil _)) (by
              try dsimp only
              exact ⟨Int.le_refl _, by omega, by simp⟩) ?_
          rintro ⟨out, a_out, c_out, k⟩ ⟨hk1, hk2, hout⟩
          refine w_norm2 (by dsimp only [List.cons_append, List.nil_append]) (by dsimp only [List.cons_append, List.nil_append]) ?_
          try dsimp only at hk1 hk2 hout ⊢
          refine w_seq (w_seq (w_region (zm rfl (zm rfl (zd rfl (op_fn Try.func17 rfl rfl rfl (last_any (Ent.app hd _) (Sl.app hs _))) (zd rfl (op_leq rfl rfl) (wl_nil (st_tn (w_cond_d rfl (fun hc33 => ?_) (fun hc33 => ?_))))))))))
          · -- c33.t
            obtain ⟨x, hx⟩ := getE (l := all) (i := (k - firstV v).toNat) (by omega)
            have hlv : lookK KZ l k = some x := by rw [hmap k, if_pos (by omega), hx]
            have hol : out.length ≤ all.length := by rw [hout, List.length_take, List.length_drop]; omega
            refine w_skip (st_tn (w_seq (w_block (w_region (zm rfl (zm rfl (zd rfl (op_nilCheck rfl) (zd rfl (op_fieldAddr (off := 3) rfl tF76_3wj) (zd rfl (op_load1 rfl tO74wj (Ent.app (Ent.fld hd 3) _)) (zm rfl (zd rfl (op_val (v' := .string (str x)) (by rw [hlv]; rfl) (op_lookup (kt := KZ) (encV := encSV) rfl rfl tQ74wj tN9wj (Ent.app hm' _))) ?_)))))))))))
            refine wl_op [] rfl rfl rfl rfl (op_buildSlice (enc := encT) (l := [x]) (lab := 43) tL35_1wj rfl rfl (fun _ => rfl) rfl) ?_
            rintro _ _ ⟨a43, c43, rfl, rfl⟩
            refine wl_op [7] rfl rfl rfl rfl (op_append (lab := 7) (lab' := 44) rfl rfl tP35wj enc1T (Sl.lab 43 rfl (by simp [maxLen])) (by simp; omega) (by simp; omega)) ?_
            rintro _ _ ⟨a44, c44, rfl, rfl⟩
            refine za rfl (wl_nil (st_bn (st_tn (w_region (zm rfl (zd rfl (op_add' rfl rfl (by omega)) ?_))))))
            refine za rfl (wl_nil ?_)
            refine st_roundQ (x := (out, a_out, c_out, k)) ((out ++ [x], _, _, k + 1)) [44] rfl (rfl) (.cons rfl (.cons rfl (.nil _))) (.cons rfl (.nil _)) (by
                try dsimp only
                refine ⟨by omega, by omega, ?_⟩
                rw [hout, show (k + 1 - n).toNat = (k - n).toNat + 1 by omega, take_snoc (x := x) (by rw [List.getElem?_drop, ← hx]; congr 1; omega)]) (by
                try dsimp only
                omega)
          · -- c33.f
            refine w_exit (st_te ?_)
            refine st_te ?_
            refine st_be (st_tn (w_seq (w_region (zm rfl (za rfl (za rfl (wl_nil (st_tn (w_ret (st_ret (vs := [_, _]) [7] Try.results24 ⟨rfl, ⟨rfl, trivial⟩⟩ rfl ?_))))))))))
            refine ⟨[(lab, _)], rfl, ?_⟩
            have h1 : repE v n = 0 := by unfold repE; rw [if_neg hbf, if_neg hc14, if_neg (by assumption)]
            have h3 : repS v all n = out := by unfold repS; rw [if_pos h1, hout, List.take_of_length_le (by rw [List.length_drop]; omega)]
            rw [h3, h1]; exact ⟨_, _, rfl, rfl⟩
end Go.Proofs.Ytcbigmgakdanjaa
namespace Go.Proofs.Ytcbigmgakdanjaa
open Go Go.SL Go.RowKit Go.RdM Go.WalM
set_option linter.unusedVariables false
set_option linter.unusedSimpArgs false
theorem tB87wk : placesB Try.prog 87 = some ([(0, 1), (1, 1), (2, 1), (3, 1)], [Value.int .i64 0, Value.int .i64 0, Value.int .i64 0, Value.int .i64 0]) := by kernel_rfl
theorem tF76_2wk : fieldB Try.prog 76 2 2 = true := by kernel_rfl
theorem tF76_3wk : fieldB Try.prog 76 3 3 = true := by kernel_rfl
theorem tF87_0wk : fieldB Try.prog 87 0 0 = true := by kernel_rfl
theorem tF87_2wk : fieldB Try.prog 87 2 2 = true := by kernel_rfl
theorem tF87_3wk : fieldB Try.prog 87 3 3 = true := by kernel_rfl
theorem tL73_1wk : zerosB Try.prog 73 87 4 1 = some [Value.int .i64 0, Value.int .i64 0, Value.int .i64 0, Value.int .i64 0] := by kernel_rfl
theorem tO3wk : oneB Try.prog 3 = true := by kernel_rfl
theorem tO73wk : oneB Try.prog 73 = true := by kernel_rfl
theorem tO74wk : oneB Try.prog 74 = true := by kernel_rfl
theorem tO9wk : oneB Try.prog 9 = true := by kernel_rfl
theorem tP73wk : appB Try.prog 73 87 4 32 = true := by kernel_rfl
theorem tQ74wk : mapB Try.prog 74 3 9 KZ.desc := ⟨Try.underlying74, Try.underlying3⟩
theorem tS35wk : sliceB Try.prog 35 9 1 = true := by kernel_rfl
theorem tS73wk : sliceB Try.prog 73 87 4 = true := by kernel_rfl
theorem tZ73wk : (Try.prog.info? 73).map (·.size) = some 1 := by kernel_rfl
theorem setK_new {l : List (Int × List UInt8)} {k : Int} {x : List UInt8} (h : lookK KZ l k = none) : setK KZ l k x = l ++ [(k, x)] := by
  induction l with
  | nil => rfl
  | cons q l ih =>
    unfold lookK at h
    unfold setK
    cases hq : KZ.eq k q.1 with
    | true => rw [hq] at h; simp at h
    | false => rw [hq] at h; simp only [cond_false] at h ⊢; rw [ih h]; rfl
theorem IsMap.nil (f : Nat) : IsMap [] f [] := ⟨List.nodup_nil, rfl, fun k => by unfold lookK; simp⟩
theorem IsMap.add {l : List (Int × List UInt8)} {f : Nat} {all : List RdM.Bs} (h : IsMap l f all) (x : List UInt8) : IsMap (setK KZ l ((f + all.length : Nat) : Int) x) f (all ++ [x]) := by
  obtain ⟨h1, h2, h3⟩ := h
  have hn : lookK KZ l ((f + all.length : Nat) : Int) = none := by
    rw [h3, if_pos (by omega), List.getElem?_eq_none (by omega)]
  refine ⟨?_, ?_, fun k => ?_⟩
  · rw [setK_new hn, List.map_append, List.nodup_append]
    refine ⟨h1, List.nodup_cons.2 ⟨by simp, List.nodup_nil⟩, fun a ha b hb => ?_⟩
    obtain rfl : b = ((f + all.length : Nat) : Int) := by simpa using hb
    intro e; subst e
    have := (look_mem (kt := KZ) (l := l)).2 ha
    rw [hn] at this; simp at this
  · rw [setK_new hn, List.length_append, List.length_append, h2]; rfl
  · rw [look_set]
    by_cases hk : k = ((f + all.length : Nat) : Int)
    · subst hk
      have : KZ.eq ((f + all.length : Nat) : Int) ((f + all.length : Nat) : Int) = true := by show ((_ : Int) == _) = true; simp
      rw [this, cond_true, if_pos (by omega), List.getElem?_append_right (by omega)]
      have e0 : (((f + all.length : Nat) : Int) - f).toNat - all.length = 0 := by omega
      rw [e0]; rfl
    · have : KZ.eq k ((f + all.length : Nat) : Int) = false := by show ((_ : Int) == _) = false; simpa using hk
      rw [this, cond_false, h3]
      by_cases h0 : (f : Int) ≤ k
      · rw [if_pos h0, if_pos h0]
        by_cases h4 : (k - f).toNat < all.length
        · rw [List.getElem?_append_left h4]
        · rw [List.getElem?_eq_none (by omega), List.getElem?_eq_none (by rw [List.length_append, List.length_singleton]; omega)]
      · rw [if_neg h0, if_neg h0]
def noteR (R : List (Nat × Nat × Nat × Nat)) (n f k : Nat) : List (Nat × Nat × Nat × Nat) :=
  match R.getLast? with
  | none => [(n, f, f + k - 1, 1)]
  | some r => if r.1 = n then R.dropLast ++ [(r.1, r.2.1, f + k - 1, r.2.2.2 + 1)] else R ++ [(n, f, f + k - 1, 1)]
theorem noteR_new {R : List (Nat × Nat × Nat × Nat)} {n f k : Nat} (h : ∀ r, R.getLast? = some r → r.1 ≠ n) : noteR R n f k = R ++ [(n, f, f + k - 1, 1)] := by
  unfold noteR
  cases hl : R.getLast? with
  | none => rw [List.getLast?_eq_none_iff.1 hl]; rfl
  | some r => exact if_neg (h r hl)
theorem last_at {α : Type} {R : List α} {r : α} (h : R[((R.length : Int) - 1).toNat]? = some r) : R.getLast? = some r := by
  rw [List.getLast?_eq_getElem?, ← h]; congr 1; omega
theorem noteR_old {R : List (Nat × Nat × Nat × Nat)} {n f k : Nat} {r : Nat × Nat × Nat × Nat} (h : R[((R.length : Int) - 1).toNat]? = some r) (hn : r.1 = n) (hl : 0 < R.length) : noteR R n f k = R.set ((R.length : Int) - 1).toNat (r.1, r.2.1, f + k - 1, r.2.2.2 + 1) := by
  have hlast := last_at h
  obtain ⟨S, hS⟩ := List.getLast?_eq_some_iff.1 hlast
  unfold noteR
  rw [hlast]
  dsimp only
  rw [if_pos hn]
  subst hS
  rw [List.dropLast_concat]
  have : (((S ++ [r]).length : Int) - 1).toNat = S.length := by simp
  rw [this, List.set_append_right _ _ (Nat.le_refl _), Nat.sub_self]; rfl
theorem cellL_len {d m c cp : Nat} {nm : RdM.Bs} {v : Lr} {a p : Option Addr} {R : List (Nat × Nat × Nat × Nat)} (h : R.length = v.rows.length) : cellL d nm { v with rows := R } m a c p cp = cellL d nm v m a c p cp := by unfold cellL; simp [h]
set_option maxHeartbeats 2000000 in
set_option maxRecDepth 100000 in
theorem note_any {σ : World} {F : List Res} {b d m c cp cg F0 : Nat} {nm : RdM.Bs} {v : Lr} {a p ag : Option Addr} {l : List (Int × List UInt8)} {all g : List RdM.Bs} (n f : Nat) (hg : Sl σ F encT 1 (.slice ag g.length cg) g) (hgl : 0 < g.length ∧ g.length ≤ 1048576) (hn : n ≤ 999999) (hf : f ≤ 1099511627776) (hm : IsMap l F0 all) (hfa : f = F0 + all.length) (hrl : v.rows.length ≤ 1099511627776) (hgr : ∀ r ∈ v.rows, r.2.2.2 ≤ 1099511627776) :
    FnT Try.prog σ F 49 [.pointer (some ⟨b, 0, none⟩), .int .i64 n, .int .i64 f, .slice ag g.length cg] [(611, cel b (cellL d nm v m a c p cp) 76), (612, slW 87 encRow 4 (.slice a v.rows.length c) v.rows), (613, mp KZ encSV m l)] (fun u ρ => ∃ a' c' l', IsMap l' F0 (all ++ g) ∧ u = .tuple #[] ∧ ρ = [(611, cel b (cellL d nm { v with rows := noteR v.rows n f g.length } m a' c' p cp) 76), (612, slW 87 encRow 4 (.slice a' (noteR v.rows n f g.length).length c') (noteR v.rows n f g.length)), (613, mp KZ encSV m l')]) := by
  refine fn_of 87 Try.func49 rfl Try.ntmps49 rfl ?_
  refine w_seq (w_seq (w_region (zm rfl (zd rfl (op_lenT rfl tS35wk (Sl.ent (by first | exact Sl.app (by assumption) _ | exact Sl.app (Sl.app (by assumption) _) _))) ?_))))
  refine zm rfl (wl_nil (st_tn (w_block ?_)))
  refine w_loopQ (X := List (Int × List UInt8) × Nat) (fun z => z.2 ≤ g.length ∧ IsMap z.1 F0 (all ++ g.take z.2)) (fun z => [(14, .int .i64 (z.2))]) (fun z => [(613, mp KZ encSV m (z.1))]) (fun z => g.length - z.2) ((l, 0)) [(0, _), (1, _), (2, _), (3, _), (12, _), (13, _)] [(611, _), (612, _)] [613, 611, 612] rfl (rfl) (.cons rfl (.nil _)) (.cons rfl (.cons rfl (.cons rfl (.cons rfl (.cons rfl (.cons rfl (.nil _))))))) (by
      try dsimp only
      exact ⟨Nat.zero_le _, by simpa using hm⟩) ?_
  rintro ⟨D, i⟩ ⟨hi, hD⟩
  refine w_norm2 (by dsimp only [List.cons_append, List.nil_append]) (by dsimp only [List.cons_append, List.nil_append]) ?_
  try dsimp only at hi hD ⊢
  refine w_seq (w_region (zd rfl (op_lss rfl rfl) (wl_nil (st_tn (w_seq (w_cond_d rfl (fun hc15 => ?_) (fun hc15 => ?_)))))))
  · -- c15.t
    obtain ⟨x, hx⟩ := getE (l := g) (i := i) (by omega)
    refine w_skip (st_tn (w_seq (w_block (w_seq (w_region (zm rfl (zd rfl (op_idx rfl rfl tS35wk (Sl.ent (by first | exact Sl.app (by assumption) _ | exact Sl.app (Sl.app (by assumption) _) _)) (by omega)) ?_)))))))
    refine zd rfl (op_ldx rfl tO9wk (by first | exact Sl.app (by assumption) _ | exact Sl.app (Sl.app (by assumption) _) _) (by assumption) (by rfl)) ?_
    refine za rfl (za rfl (wl_nil (st_tn (w_region (zm rfl (zd rfl (op_nilCheck rfl) (zd rfl (op_fieldAddr (off := 3) rfl tF76_3wk) (zd rfl (op_load1 rfl tO74wk (Ent.lab (l := 611) rfl (says_cel 3))) (zm rfl (zm rfl (zd rfl (op_val (v' := .int .i64 ((f + i : Nat) : Int)) (by rw [show ((f + i : Nat) : Int) = (f : Int) + i by omega]) (op_add' rfl rfl (by omega))) ?_)))))))))))
    refine zm rfl (wl_op0 [613] rfl rfl rfl (op_mapUpdate (kt := KZ) (encV := encSV) (lab := 613) rfl rfl rfl tQ74wk) ?_)
    rintro _ _ ⟨rfl, rfl⟩
    refine wl_nil (st_bn (st_tn (w_region (zd rfl (op_add' rfl rfl (by omega)) ?_))))
    refine zm rfl (wl_nil ?_)
    refine st_roundQ (x := (D, i)) ((setK KZ D ((f + i : Nat) : Int) x, i + 1)) [613, 611, 612] rfl (rfl) (.cons rfl (.nil _)) (.cons rfl (.cons rfl (.cons rfl (.cons rfl (.cons rfl (.cons rfl (.nil _))))))) (by
        try dsimp only
        exact ⟨by omega, by rw [take_snoc hx, ← List.append_assoc, show f + i = F0 + (all ++ g.take i).length by rw [List.length_append, List.length_take]; omega]; exact hD.add x⟩) (by
        try dsimp only
        omega)
  · -- c15.f
    rw [take_all (by omega)] at hD
    refine w_exit (st_te ?_)
    refine st_te ?_
    refine st_be (st_tn (w_seq (w_region (zm rfl (zm rfl (zd rfl (op_lenT rfl tS35wk (Sl.ent (by first | exact Sl.app (by assumption) _ | exact Sl.app (Sl.app (by assumption) _) _))) ?_))))))
    refine zd rfl (op_add' rfl rfl (by omega)) ?_
    refine zd rfl (op_val (v' := .int .i64 ((f + g.length - 1 : Nat) : Int)) (by rw [show ((f + g.length - 1 : Nat) : Int) = (f : Int) + g.length - 1 by omega]) (op_sub' rfl rfl (by omega))) ?_
    refine za rfl (wl_nil (st_tn (w_seq (w_seq (w_region (zm rfl (zd rfl (op_nilCheck rfl) (zd rfl (op_fieldAddr (off := 2) rfl tF76_2wk) (zd rfl (op_load1 rfl tO73wk (Ent.lab (l := 611) rfl (says_cel 2))) (zd rfl (op_lenT rfl tS73wk (Sl.ent (Sl.lab 612 rfl (by unfold maxLen; omega)))) ?_))))))))))
    refine za rfl (wl_nil (st_tn (w_seq ?_)))
    by_cases hz : 0 < v.rows.length
    · -- hz+
      obtain ⟨r, hr⟩ := getE (l := v.rows) (i := ((v.rows.length : Int) - 1).toNat) (by omega)
      have hrg := hgr r (List.mem_of_getElem? hr)
      refine w_region (zm rfl (zd rfl (op_val (v' := .bool true) (by rw [decide_eq_true (by omega)]) (op_gtr rfl rfl)) ?_))
      refine zm rfl (wl_wanted_det rfl rfl rfl rfl rfl rfl rfl (op_move rfl) (wl_wanted_det rfl rfl rfl rfl rfl rfl rfl (op_nilCheck rfl) (wl_wanted_det rfl rfl rfl rfl rfl rfl rfl (op_fieldAddr (off := 2) rfl tF76_2wk) (wl_wanted_det rfl rfl rfl rfl rfl rfl rfl (op_load1 rfl tO73wk (Ent.lab (l := 611) rfl (says_cel 2))) (wl_wanted_det rfl rfl rfl rfl rfl rfl rfl (op_move rfl) (wl_wanted_det rfl rfl rfl rfl rfl rfl rfl (op_sub' rfl rfl (by omega)) ?_))))))
      refine wl_wanted_det rfl rfl rfl rfl rfl rfl rfl (op_idxZ rfl rfl tS73wk (Sl.ent (Sl.lab 612 rfl (by unfold maxLen; omega))) (by omega) (by omega)) ?_
      refine wl_wanted_det rfl rfl rfl rfl rfl rfl rfl (op_fieldAddr (off := 0) rfl tF87_0wk) (wl_wanted_det rfl rfl rfl rfl rfl rfl rfl (op_ldxf rfl tO3wk (Sl.lab 612 rfl (by unfold maxLen; omega)) (by assumption) (by rfl)) ?_)
      refine wl_wanted_det rfl rfl rfl rfl rfl rfl rfl (op_move rfl) (wl_wanted_det rfl rfl rfl rfl rfl rfl rfl (op_eql rfl rfl) (zd rfl (op_pick_t rfl rfl) (wl_nil (st_tn (w_cond_d rfl (fun hc52 => ?_) (fun hc52 => ?_))))))
      · -- c52.t
        refine w_seq (w_region (zm rfl (zd rfl (op_nilCheck rfl) (zd rfl (op_fieldAddr (off := 2) rfl tF76_2wk) (zd rfl (op_load1 rfl tO73wk (Ent.lab (l := 611) rfl (says_cel 2))) (zm rfl (zd rfl (op_sub' rfl rfl (by omega)) ?_)))))))
        refine zm rfl (zd rfl (op_idxZ rfl rfl tS73wk (Sl.ent (Sl.lab 612 rfl (by unfold maxLen; omega))) (by omega) (by omega)) ?_)
        refine zd rfl (op_fieldAddr (off := 2) rfl tF87_2wk) (wl_op0 [612] rfl rfl rfl (op_storeX (lab := 612) (j := 2) (b' := (r.1, r.2.1, f + g.length - 1, r.2.2.2)) rfl rfl tO3wk rfl rfl (by rfl) hr (Nat.le_of_ble_eq_true rfl) (by rfl)) ?_)
        rintro _ _ ⟨rfl, rfl⟩
        refine wl_nil (st_tn (w_seq ?_))
        have hsl : (v.rows.set ((v.rows.length : Int) - 1).toNat (r.1, r.2.1, f + g.length - 1, r.2.2.2)).length = v.rows.length := List.length_set ..
        have hr2 : (v.rows.set ((v.rows.length : Int) - 1).toNat (r.1, r.2.1, f + g.length - 1, r.2.2.2))[((v.rows.length : Int) - 1).toNat]? = some (r.1, r.2.1, f + g.length - 1, r.2.2.2) := List.getElem?_set_self (by omega)
        refine w_region (zm rfl (zd rfl (op_nilCheck rfl) (zd rfl (op_fieldAddr (off := 2) rfl tF76_2wk) (zd rfl (op_load1 rfl tO73wk (Ent.lab (l := 611) rfl (says_cel 2))) (zm rfl (zd rfl (op_sub' rfl rfl (by omega)) ?_))))))
        refine zd rfl (op_idxZ rfl rfl tS73wk (Sl.ent (Sl.lab 612 rfl (by unfold maxLen; omega))) (by omega) (by omega)) ?_
        refine zd rfl (op_fieldAddr (off := 3) rfl tF87_3wk) (zd rfl (op_ldxf rfl tO3wk (Sl.lab 612 rfl (by unfold maxLen; omega)) (by assumption) (by rfl)) ?_)
        refine zd rfl (op_val (v' := .int .i64 ((r.2.2.2 + 1 : Nat) : Int)) (by rfl) (op_add' rfl rfl (by dsimp only; omega))) ?_
        refine zd rfl (op_idxZ rfl rfl tS73wk (Sl.ent (Sl.lab 612 rfl (by unfold maxLen; omega))) (by omega) (by omega)) ?_
        refine zd rfl (op_fieldAddr (off := 3) rfl tF87_3wk) (wl_op0 [612] rfl rfl rfl (op_storeX (lab := 612) (j := 3) (b' := (r.1, r.2.1, f + g.length - 1, r.2.2.2 + 1)) rfl rfl tO3wk rfl rfl (by rfl) hr2 (Nat.le_of_ble_eq_true rfl) (by rfl)) ?_)
        rintro _ _ ⟨rfl, rfl⟩
        refine wl_nil (st_tn (w_ret (st_tr (st_ret (vs := []) [611, 612, 613] Try.results49 trivial rfl ?_))))
        refine ⟨[(611, _), (612, _), (613, _)], rfl, ?_⟩
        have h := noteR_old (n := n) (f := f) (k := g.length) hr (by omega) hz
        have hlen : (noteR v.rows n f g.length).length = v.rows.length := by rw [h, List.length_set]
        refine ⟨a, c, D, hD, rfl, ?_⟩
        rw [cellL_len hlen, hlen, h, List.set_set]
      · -- c52.f
        refine w_skip (st_tn (w_region (zm rfl (zm rfl (zd rfl (op_nilCheck rfl) (zd rfl (op_fieldAddr (off := 2) rfl tF76_2wk) (zd rfl (op_load1 rfl tO73wk (Ent.lab (l := 611) rfl (says_cel 2))) (zm rfl (zm rfl (zm rfl (zd rfl (op_build tB87wk rfl rfl) (wl_op [] rfl rfl rfl rfl (op_buildSlice (enc := encRow) (l := [(n, f, f + g.length - 1, 1)]) (lab := 83) tL73_1wk rfl rfl (fun _ => rfl) rfl) ?_))))))))))))
        rintro _ _ ⟨a83, c83, rfl, rfl⟩
        refine wl_op [612] rfl rfl rfl rfl (op_append (lab := 612) (lab' := 84) rfl rfl tP73wk enc1Row (Sl.lab 83 rfl (by simp [maxLen])) (by simp; omega) (by simp; omega)) ?_
        rintro _ _ ⟨a84, c84, rfl, rfl⟩
        refine zd rfl (op_nilCheck rfl) (zd rfl (op_fieldAddr (off := 2) rfl tF76_2wk) (wl_op0 [611] rfl rfl rfl (op_store rfl rfl tZ73wk (by rfl) (by rfl) (by exact Nat.le_of_ble_eq_true rfl)) ?_))
        rintro _ _ ⟨rfl, rfl⟩
        refine wl_nil (st_end (vs := []) [611, 84, 613] Try.results49 trivial rfl ?_)
        refine ⟨[(611, _), (612, _), (613, _)], rfl, ?_⟩
        have h := noteR_new (R := v.rows) (n := n) (f := f) (k := g.length) (fun q hq => by
          rw [last_at hr] at hq
          simp at hq; subst hq; omega)
        rw [h]; exact ⟨_, _, D, hD, rfl, rfl⟩
    · -- hz-
      refine w_region (zm rfl (zd rfl (op_val (v' := .bool false) (by rw [decide_eq_false (by omega)]) (op_gtr rfl rfl)) ?_))
      refine zm rfl (wl_unwanted rfl rfl rfl rfl rfl rfl rfl rfl (wl_unwanted rfl rfl rfl rfl rfl rfl rfl rfl (wl_unwanted rfl rfl rfl rfl rfl rfl rfl rfl (wl_unwanted rfl rfl rfl rfl rfl rfl rfl rfl (wl_unwanted rfl rfl rfl rfl rfl rfl rfl rfl (wl_unwanted rfl rfl rfl rfl rfl rfl rfl rfl (wl_unwanted rfl rfl rfl rfl rfl rfl rfl rfl (wl_unwanted rfl rfl rfl rfl rfl rfl rfl rfl (wl_unwanted rfl rfl rfl rfl rfl rfl rfl rfl (wl_unwanted rfl rfl rfl rfl rfl rfl rfl rfl (wl_unwanted rfl rfl rfl rfl rfl rfl rfl rfl (zd rfl (op_pick_f rfl rfl) (wl_nil ?_)))))))))))))
      refine st_tn (w_cond_f (rfl) ?_)
      refine w_skip (st_tn (w_region (zm rfl (zm rfl (zd rfl (op_nilCheck rfl) (zd rfl (op_fieldAddr (off := 2) rfl tF76_2wk) (zd rfl (op_load1 rfl tO73wk (Ent.lab (l := 611) rfl (says_cel 2))) (zm rfl (zm rfl (zm rfl (zd rfl (op_build tB87wk rfl rfl) (wl_op [] rfl rfl rfl rfl (op_buildSlice (enc := encRow) (l := [(n, f, f + g.length - 1, 1)]) (lab := 83) tL73_1wk rfl rfl (fun _ => rfl) rfl) ?_))))))))))))
      rintro _ _ ⟨a83, c83, rfl, rfl⟩
      refine wl_op [612] rfl rfl rfl rfl (op_append (lab := 612) (lab' := 84) rfl rfl tP73wk enc1Row (Sl.lab 83 rfl (by simp [maxLen])) (by simp; omega) (by simp; omega)) ?_
      rintro _ _ ⟨a84, c84, rfl, rfl⟩
      refine zd rfl (op_nilCheck rfl) (zd rfl (op_fieldAddr (off := 2) rfl tF76_2wk) (wl_op0 [611] rfl rfl rfl (op_store rfl rfl tZ73wk (by rfl) (by rfl) (by exact Nat.le_of_ble_eq_true rfl)) ?_))
      rintro _ _ ⟨rfl, rfl⟩
      refine wl_nil (st_end (vs := []) [611, 84, 613] Try.results49 trivial rfl ?_)
      refine ⟨[(611, _), (612, _), (613, _)], rfl, ?_⟩
      have h := noteR_new (R := v.rows) (n := n) (f := f) (k := g.length) (fun q hq => by
        have : v.rows = [] := List.eq_nil_of_length_eq_zero (by omega)
        rw [this] at hq; simp at hq)
      rw [h]; exact ⟨_, _, D, hD, rfl, rfl⟩
end Go.Proofs.Ytcbigmgakdanjaa
namespace Go.Proofs.Ytcbigmgakdanjaa
open Go Go.SL Go.RowKit Go.RdM Go.WalM
set_option linter.unusedVariables false
set_option linter.unusedSimpArgs false
theorem tF76_0wl : fieldB Try.prog 76 0 0 = true := by kernel_rfl
theorem tF76_3wl : fieldB Try.prog 76 3 3 = true := by kernel_rfl
theorem tMixwl : Try.prog.follows .mixedOrders = true := by kernel_rfl
theorem tO22wl : oneB Try.prog 22 = true := by kernel_rfl
theorem tO74wl : oneB Try.prog 74 = true := by kernel_rfl
theorem tQ74wl : mapB Try.prog 74 3 9 KZ.desc := ⟨Try.underlying74, Try.underlying3⟩
abbrev Row := Nat × Nat × Nat × Nat
abbrev RowL := List Row
abbrev OA := Option Addr
def fJ (f : Nat) (gs : List (List RdM.Bs)) (j : Nat) : Nat := f + (gs.take j).flatten.length
def rowsJ (R : List Row) (n f : Nat) (gs : List (List RdM.Bs)) (j : Nat) : List Row := if j = 0 then R else R ++ [(n, f, fJ f gs j - 1, j)]
theorem fJ_zero (f : Nat) (gs : List (List RdM.Bs)) : fJ f gs 0 = f := by unfold fJ; simp
theorem fJ_succ {f : Nat} {gs : List (List RdM.Bs)} {j : Nat} {g : List RdM.Bs} (h : gs[j]? = some g) : fJ f gs (j + 1) = fJ f gs j + g.length := by
  unfold fJ; rw [take_snoc h, List.flatten_append, List.length_append]; simp [Nat.add_assoc]
theorem fJ_le {f : Nat} (gs : List (List RdM.Bs)) (j : Nat) : f ≤ fJ f gs j ∧ fJ f gs j ≤ f + gs.flatten.length := by
  unfold fJ
  have h := congrArg (fun l => (List.flatten l).length) (List.take_append_drop j gs)
  simp only [List.flatten_append, List.length_append] at h
  omega
theorem fJ_all {f : Nat} {gs : List (List RdM.Bs)} {j : Nat} (h : gs.length ≤ j) : fJ f gs j = f + gs.flatten.length := by unfold fJ; rw [take_all h]
theorem rowsJ_succ {R : List Row} {n f : Nat} {gs : List (List RdM.Bs)} {j : Nat} {g : List RdM.Bs} (hR : ∀ r, R.getLast? = some r → r.1 ≠ n) (h : gs[j]? = some g) : noteR (rowsJ R n f gs j) n (fJ f gs j) g.length = rowsJ R n f gs (j + 1) := by
  unfold rowsJ
  rw [if_neg (by omega : ¬ j + 1 = 0), fJ_succ h]
  by_cases h0 : j = 0
  · subst h0
    rw [if_pos rfl, noteR_new hR, fJ_zero]
  · rw [if_neg h0]
    unfold noteR
    rw [List.getLast?_concat]
    dsimp only
    rw [if_pos rfl, List.dropLast_concat]
theorem rowsJ_len (R : List Row) (n f : Nat) (gs : List (List RdM.Bs)) (j : Nat) : (rowsJ R n f gs j).length ≤ R.length + 1 := by
  unfold rowsJ; split <;> simp
theorem rowsJ_mem {R : List Row} {n f : Nat} {gs : List (List RdM.Bs)} {j : Nat} {r : Row} (h : r ∈ rowsJ R n f gs j) : r ∈ R ∨ r = (n, f, fJ f gs j - 1, j) := by
  unfold rowsJ at h
  split at h
  · exact .inl h
  · rcases List.mem_append.1 h with h | h
    · exact .inl h
    · exact .inr (List.mem_singleton.1 h)
theorem rowsJ_last {v : Lr} (hb : v.broken = false) {n f : Nat} {gs : List (List RdM.Bs)} {j : Nat} (hj : 0 < j) : lastV { v with rows := rowsJ v.rows n f gs j } = fJ f gs j - 1 := by
  unfold lastV rowsJ
  rw [if_neg (by simp [hb])]
  dsimp only
  rw [if_neg (by omega : ¬ j = 0), List.getLast?_concat]
theorem encGs_at {f : Nat} {gs : List (List RdM.Bs)} {j : Nat} {g : List RdM.Bs} (h : gs[j]? = some g) : encGs f gs = encGs f (gs.take j) ++ encG (fJ f gs j) g ++ encGs (fJ f gs j + g.length) (gs.drop (j + 1)) := by
  have hlt := (List.getElem?_eq_some_iff.1 h).1
  have hre := (List.getElem?_eq_some_iff.1 h).2
  have hspl : gs = gs.take j ++ g :: gs.drop (j + 1) := by rw [← hre, ← List.drop_eq_getElem_cons hlt, List.take_append_drop]
  conv => lhs; rw [hspl]
  rw [encGs_app, encGs, List.append_assoc]; rfl
theorem encGs_snoc {f : Nat} {gs : List (List RdM.Bs)} {j : Nat} {g : List RdM.Bs} (h : gs[j]? = some g) : encGs f (gs.take (j + 1)) = encGs f (gs.take j) ++ encG (fJ f gs j) g := by
  rw [take_snoc h, encGs_app, encGs_one]; rfl
theorem gs_len {gs : List (List RdM.Bs)} (h : ∀ g ∈ gs, OkG g) : gs.length ≤ gs.flatten.length := by
  induction gs with
  | nil => simp
  | cons g gs ih =>
    have h1 := List.length_pos_iff.2 (h g (by simp)).ne
    have h2 := ih fun x hx => h x (by simp [hx])
    rw [List.flatten_cons, List.length_append, List.length_cons]; omega
theorem encGs_take_le (f : Nat) (gs : List (List RdM.Bs)) (j : Nat) : (encGs f (gs.take j)).length ≤ (encGs f gs).length := by
  conv => rhs; rw [← List.take_append_drop j gs, encGs_app]
  rw [List.length_append]; omega
theorem torn_no {f : Nat} {gs : List (List RdM.Bs)} {t : RdM.Bs} (ht : Torn (f + gs.flatten.length) t) (h0 : t ≠ []) (hf : f + gs.flatten.length ≤ 1099511627776) : (rdN (encGs f gs ++ t) (rdT (encGs f gs ++ t) 1073741824 ⟨(encGs f gs).length, 0⟩).2).2.e ≠ 0 := by
  rcases ht with h | ⟨g, j, hg, hj, rfl⟩
  · exact absurd h h0
  · exact torn_none hf hg hj rfl
set_option maxHeartbeats 4000000 in
set_option maxRecDepth 100000 in
theorem load_any {σ : World} {F : List Res} {b d m c cp F0 mm : Nat} {nm : RdM.Bs} {v : Lr} {a p : Option Addr} {l : List (Int × List UInt8)} {all : List RdM.Bs} {gs : List (List RdM.Bs)} {t : RdM.Bs} {s : DskM.St} {lf : DskM.Files} (n f : Nat)
    (hgD : DskM.Good s) (hpD : lf.Perm s.fs) (hdk : Ent σ F (At ⟨d, 0, none⟩ (cellD s mm))) (hmk : Mr σ F KL DskM.encF (.map (some mm)) lf) (hfile : DskM.readO s (fileN nm n) false = (encGs f gs ++ t, 0))
    (hnm : nm.length ≤ 64) (hn : n ≤ 999999) (hgs : gs ≠ []) (hok : ∀ g ∈ gs, OkG g) (ht : Torn (f + gs.flatten.length) t) (hsz : (encGs f gs ++ t).length ≤ 1099511627776) (hf : f + gs.flatten.length ≤ 1099511627776)
    (hm : IsMap l F0 all) (hfa : f = F0 + all.length) (hb : v.broken = false) (hlv : all ≠ [] → lastV v + 1 = f) (hR : ∀ r, v.rows.getLast? = some r → r.1 ≠ n) (hrl : v.rows.length ≤ 1048576) (hgr : ∀ r ∈ v.rows, r.2.2.2 ≤ 1099511627776) :
    FnT Try.prog σ F 53 [.pointer (some ⟨b, 0, none⟩), .int .i64 n] [(611, cel b (cellL d nm v m a c p cp) 76), (612, slW 87 encRow 4 (.slice a v.rows.length c) v.rows), (613, mp KZ encSV m l)] (fun u ρ => ∃ a' c' l', IsMap l' F0 (all ++ gs.flatten) ∧ u = .int .i64 0 ∧ ρ = [(611, cel b (cellL d nm { v with rows := v.rows ++ [(n, f, f + gs.flatten.length - 1, gs.length)] } m a' c' p cp) 76), (612, slW 87 encRow 4 (.slice a' (v.rows ++ [(n, f, f + gs.flatten.length - 1, gs.length)]).length c') (v.rows ++ [(n, f, f + gs.flatten.length - 1, gs.length)])), (613, mp KZ encSV m l')]) := by
  refine fn_of 56 Try.func53 rfl Try.ntmps53 rfl ?_
  have hgl := List.length_pos_iff.2 hgs
  have hgc := gs_len hok
  have hfin : rowsJ v.rows n f gs gs.length = v.rows ++ [(n, f, f + gs.flatten.length - 1, gs.length)] := by unfold rowsJ; rw [if_neg (by omega), fJ_all (Nat.le_refl _)]
  refine w_seq (w_region (za rfl (wl_nil (st_tn (w_seq ?_)))))
  refine w_draw (D := [⟨12, [], [], [], _, false, [], []⟩, ⟨13, [0], [], [], _, false, [], []⟩, ⟨14, [1], [], [], _, false, [], []⟩, ⟨15, [2], [], [], _, false, [], []⟩, ⟨16, [], [], [], _, false, [], []⟩, ⟨17, [], [], [], _, false, [], []⟩, ⟨18, [4, 5], [], [], _, false, [], []⟩, ⟨19, [3, 6], [], [], _, false, [], []⟩, ⟨11, [7], [], [], _, false, [], []⟩, ⟨20, [8], [], [], _, false, [], []⟩, ⟨21, [8], [], [], _, false, [], []⟩, ⟨5, [9], [], [], _, false, [], []⟩]) [] [0, 1] [⟨12, [], [], false, [], []⟩, ⟨13, [0], [], false, [], []⟩, ⟨14, [1], [], false, [], []⟩, ⟨15, [2], [], false, [], []⟩, ⟨16, [], [], false, [], []⟩, ⟨17, [], [], false, [], []⟩, ⟨18, [4, 5], [], false, [], []⟩, ⟨19, [3, 6], [], false, [], []⟩, ⟨11, [7], [], false, [], []⟩, ⟨20, [8], [], false, [], []⟩, ⟨21, [8], [], false, [], []⟩, ⟨5, [9], [], false, [], []⟩] tMixwl (by rfl) (by kernel_rfl) (by rfl) (by rfl)
      ⟨.plain rfl (by intro X; exact op_move rfl),
      ⟨.plain rfl (by intro X; rintro _ _ ⟨rfl, rfl⟩; exact op_nilCheck rfl),
      ⟨.plain rfl (by intro X; rintro _ _ ⟨rfl, rfl⟩; exact op_fieldAddr (off := 0) rfl tF76_0wl),
      ⟨.plain rfl (by intro X; rintro _ _ ⟨rfl, rfl⟩; exact op_load1 rfl tO22wl (Ent.lab (l := 611) rfl (says_cel 0))),
      ⟨.plain rfl (by intro X; exact op_move rfl),
      ⟨.plain rfl (by intro X; exact op_move rfl),
      ⟨.plain rfl (by intro X; rintro _ _ ⟨rfl, rfl⟩ _ _ ⟨rfl, rfl⟩; exact op_fn Try.func45 rfl rfl rfl (file_any n hn hnm (celLg 611 rfl))),
      ⟨.plain rfl (by intro X; rintro _ _ ⟨rfl, rfl⟩ _ _ ⟨rfl, rfl⟩; exact op_fn Try.func71 rfl rfl rfl (read_to (m := mm) hfile hgD hpD (by rw [len_fileN]; unfold maxLen; omega) (Ent.app (Ent.app hdk X) _) (Ent.app (Ent.app hmk X) _))),
      ⟨.plain rfl (by intro X; rintro _ _ ⟨rfl, rfl⟩; exact op_move rfl),
      ⟨.plain rfl (by intro X; rintro _ _ ⟨rfl, rfl⟩; exact op_extract rfl rfl),
      ⟨.plain rfl (by intro X; rintro _ _ ⟨rfl, rfl⟩; exact op_extract rfl rfl),
      ⟨.plain rfl (by intro X; rintro _ _ ⟨rfl, rfl⟩; exact op_assign rfl),
      trivial⟩⟩⟩⟩⟩⟩⟩⟩⟩⟩⟩⟩ ?_
  rintro _ _ ⟨rfl, rfl⟩ _ _ ⟨rfl, rfl⟩ _ _ ⟨rfl, rfl⟩ _ _ ⟨rfl, rfl⟩ _ _ ⟨rfl, rfl⟩ _ _ ⟨rfl, rfl⟩ _ _ ⟨rfl, rfl⟩ _ _ ⟨rfl, rfl⟩ _ _ ⟨rfl, rfl⟩ _ _ ⟨rfl, rfl⟩ _ _ ⟨rfl, rfl⟩ _ _ ⟨rfl, rfl⟩
  refine wl_norm (e' := [(0, _), (1, _), (5, _), (21, _)]) (.cons rfl (.cons rfl (.cons rfl (.cons rfl (.nil _))))) (by dsimp only [cond_false, cond_true, List.nil_append, List.cons_append]) ?_
  refine za rfl (wl_nil (st_tn (w_seq (w_seq (w_region (zm rfl (zd rfl (op_val (v' := .bool false) (by simp) (op_neq rfl rfl)) ?_)))))))
  refine wl_nil (st_tn (w_cond_f (rfl) ?_))
  refine w_skip (st_tn (w_seq (w_region (zm rfl (wl_op [] rfl rfl rfl rfl (op_fn Try.func72 rfl rfl rfl (rnew_any 600 (encGs f gs ++ t))) ?_)))))
  rintro _ _ ⟨b26, rfl, rfl⟩
  refine za rfl (wl_nil (st_tn (w_seq (w_block ?_))))
  refine w_loopQ (X := Nat × RowL × OA × Nat × RdM.Rd × List (Int × List UInt8)) (fun z => z.1 ≤ gs.length ∧ z.2.1 = rowsJ v.rows n f gs z.1 ∧ IsMap z.2.2.2.2.2 F0 (all ++ (gs.take z.1).flatten) ∧ z.2.2.2.2.1 = ⟨(encGs f (gs.take z.1)).length, 0⟩) (fun z => []) (fun z => [(613, mp KZ encSV m (z.2.2.2.2.2)), (611, cel b (cellL d nm { v with rows := (z.2.1) } m (z.2.2.1) (z.2.2.2.1) p cp) 76), (612, slW 87 encRow 4 (.slice (z.2.2.1) (z.2.1).length (z.2.2.2.1)) (z.2.1)), (600, cel b26 (cellR (encGs f gs ++ t) (z.2.2.2.2.1)) 130)]) (fun z => gs.length - z.1) ((0, v.rows, a, c, ⟨0, 0⟩, l)) [(0, _), (1, _), (7, _)] [] [613, 611, 612, 600] rfl (rfl) (.nil _) (.cons rfl (.cons rfl (.cons rfl (.nil _)))) (by
      try dsimp only
      exact ⟨Nat.zero_le _, rfl, by simpa using hm, rfl⟩) ?_
  rintro ⟨j, R, a2, c2, r, D⟩ ⟨hj0, hRj, hD, hr⟩
  refine w_norm2 (by dsimp only [List.cons_append, List.nil_append]) (by dsimp only [List.cons_append, List.nil_append]) ?_
  try dsimp only at hj0 hRj hD hr ⊢
  refine w_seq (w_seq ?_)
  have hrat := encGs_take_le f gs j
  have hr2 : r.at_ = (encGs f (gs.take j)).length := by rw [hr]
  have hrat2 : r.at_ ≤ (encGs f gs ++ t).length := by rw [List.length_append]; omega
  have hRl := rowsJ_len v.rows n f gs j
  rw [← hRj] at hRl
  refine w_region (zm rfl (zd rfl (op_fn Try.func73 rfl rfl rfl (rleft_any hrat2 hsz (celR 600 rfl))) (zd rfl (op_gtr rfl rfl) (wl_nil (st_tn (w_cond_d rfl (fun hc29 => ?_) (fun hc29 => ?_)))))))
  · -- c29.t
    refine w_skip (st_tn (w_block (w_seq ?_)))
    by_cases hj : j < gs.length
    · -- hj+
      obtain ⟨g, hg⟩ := getE (l := gs) (i := j) (by omega)
      have hgok := hok g (List.mem_of_getElem? hg)
      have hgl1 := List.length_pos_iff.2 hgok.ne
      have hgl2 := hgok.len
      have hfj := fJ_le (f := f) gs j
      have hfs := fJ_succ (f := f) hg
      have hfj2 := fJ_le (f := f) gs (j + 1)
      have hS : encGs f gs ++ t = encGs f (gs.take j) ++ encG (fJ f gs j) g ++ (encGs (fJ f gs j + g.length) (gs.drop (j + 1)) ++ t) := by rw [encGs_at hg]; simp only [List.append_assoc]
      have hnote := rowsJ_succ (R := v.rows) (n := n) (f := f) hR hg
      rw [← hRj] at hnote
      rw [hr]
      refine w_region (zm rfl (wl_op [600] rfl rfl rfl rfl (op_fn Try.func74 rfl rfl rfl (dec_ok 32 hgok (by omega) hS hsz)) ?_))
      rintro _ _ ⟨a32, c32, rfl, rfl⟩
      refine zm rfl (zd rfl (op_extract rfl rfl) (zd rfl (op_extract rfl rfl) (zd rfl (op_extract rfl rfl) (za rfl (za rfl (za rfl (wl_nil (st_tn (w_seq (w_seq (w_region (zm rfl (zd rfl (op_not_t rfl) ?_)))))))))))))
      refine wl_nil (st_tn (w_cond_f (rfl) ?_))
      refine w_skip (st_tn (w_seq (w_seq ?_)))
      by_cases hz : 0 < D.length
      · -- hz+
        have hlast : lastV { v with rows := R } = fJ f gs j - 1 ∧ 1 ≤ fJ f gs j := by
          rcases Nat.eq_zero_or_pos j with h0 | h0
          · subst h0
            have hDl := hD.2.1
            have hall : all ≠ [] := fun h => by subst h; simp at hDl; rw [hDl] at hz; simp at hz
            have h1 := hlv hall
            have h2 : R = v.rows := by rw [hRj]; unfold rowsJ; rw [if_pos rfl]
            rw [h2, fJ_zero]
            exact ⟨by show lastV v = _; omega, by omega⟩
          · have h1 := rowsJ_last (v := v) hb (n := n) (f := f) (gs := gs) h0
            rw [← hRj] at h1
            refine ⟨h1, ?_⟩
            have h3 := gs_len (gs := gs.take j) fun x hx => hok x (List.mem_of_mem_take hx)
            rw [List.length_take] at h3
            unfold fJ; omega
        refine w_region (zm rfl (zd rfl (op_nilCheck rfl) (zd rfl (op_fieldAddr (off := 3) rfl tF76_3wl) (zd rfl (op_load1 rfl tO74wl (Ent.lab (l := 611) rfl (says_cel 3))) (zd rfl (op_lenM (kt := KZ) (encV := encSV) rfl tQ74wl (Mr.lab 613 rfl)) (zd rfl (op_val (v' := .bool true) (by rw [decide_eq_true (by omega)]) (op_gtr rfl rfl)) ?_))))))
        refine zm rfl (wl_wanted_det rfl rfl rfl rfl rfl rfl rfl (op_move rfl) (wl_wanted_det rfl rfl rfl rfl rfl rfl rfl (op_move rfl) (wl_wanted_det rfl rfl rfl rfl rfl rfl rfl (op_val (v' := .int .i64 ((fJ f gs j - 1 : Nat) : Int)) (by rw [hlast.1]) (op_fn Try.func17 rfl rfl rfl (last_any (v := { v with rows := R }) (celLg 611 rfl) (Sl.lab 612 rfl (by show R.length ≤ _; unfold maxLen; omega))))) ?_)))
        refine wl_wanted_det rfl rfl rfl rfl rfl rfl rfl (op_add' rfl rfl (by omega)) ?_
        refine wl_wanted_det rfl rfl rfl rfl rfl rfl rfl (op_val (v' := .bool false) (by rw [decide_eq_false (by omega)]) (op_neq rfl rfl)) ?_
        refine zd rfl (op_pick_t rfl rfl) (wl_nil (st_tn (w_cond_f (rfl) ?_)))
        refine w_skip (st_tn (w_region (zm rfl (zm rfl (zm rfl (zm rfl (wl_op [611, 612, 613] rfl rfl rfl rfl (op_fn Try.func49 rfl rfl rfl (note_any (v := { v with rows := R }) (F0 := F0) (all := all ++ (gs.take j).flatten) n (fJ f gs j) (Sl.lab 32 rfl (by unfold maxLen; omega)) ⟨hgl1, by omega⟩ hn (by omega) hD (by unfold fJ; rw [List.length_append]; omega) (by show R.length ≤ _; omega) (fun r hr => by rcases rowsJ_mem (hRj ▸ hr) with h | h; (· exact hgr r h); (· subst h; show j ≤ _; omega)))) ?_)))))))
        rintro _ _ ⟨a55, c55, l55, hl55, rfl, rfl⟩
        refine wl_nil (st_bn ?_)
        refine st_roundQ (x := (j, R, a2, c2, r, D)) ((j + 1, rowsJ v.rows n f gs (j + 1), a55, c55, ⟨(encGs f (gs.take (j + 1))).length, 0⟩, l55)) [613, 611, 612, 600] rfl (by rw [hnote, encGs_snoc hg]; rfl) (.nil _) (.cons rfl (.cons rfl (.cons rfl (.nil _)))) (by
            try dsimp only
            exact ⟨by omega, rfl, by rw [take_snoc hg, List.flatten_append, ← List.append_assoc]; simpa using hl55, rfl⟩) (by
            try dsimp only
            omega)
      · -- hz-
        refine w_region (zm rfl (zd rfl (op_nilCheck rfl) (zd rfl (op_fieldAddr (off := 3) rfl tF76_3wl) (zd rfl (op_load1 rfl tO74wl (Ent.lab (l := 611) rfl (says_cel 3))) (zd rfl (op_lenM (kt := KZ) (encV := encSV) rfl tQ74wl (Mr.lab 613 rfl)) (zd rfl (op_val (v' := .bool false) (by rw [decide_eq_false (by omega)]) (op_gtr rfl rfl)) ?_))))))
        refine zm rfl (wl_unwanted rfl rfl rfl rfl rfl rfl rfl rfl (wl_unwanted rfl rfl rfl rfl rfl rfl rfl rfl (wl_unwanted rfl rfl rfl rfl rfl rfl rfl rfl (wl_unwanted rfl rfl rfl rfl rfl rfl rfl rfl (wl_unwanted rfl rfl rfl rfl rfl rfl rfl rfl (zd rfl (op_pick_f rfl rfl) (wl_nil (st_tn (w_cond_f (rfl) ?_)))))))))
        refine w_skip (st_tn (w_region (zm rfl (zm rfl (zm rfl (zm rfl (wl_op [611, 612, 613] rfl rfl rfl rfl (op_fn Try.func49 rfl rfl rfl (note_any (v := { v with rows := R }) (F0 := F0) (all := all ++ (gs.take j).flatten) n (fJ f gs j) (Sl.lab 32 rfl (by unfold maxLen; omega)) ⟨hgl1, by omega⟩ hn (by omega) hD (by unfold fJ; rw [List.length_append]; omega) (by show R.length ≤ _; omega) (fun r hr => by rcases rowsJ_mem (hRj ▸ hr) with h | h; (· exact hgr r h); (· subst h; show j ≤ _; omega)))) ?_)))))))
        rintro _ _ ⟨a55, c55, l55, hl55, rfl, rfl⟩
        refine wl_nil (st_bn ?_)
        refine st_roundQ (x := (j, R, a2, c2, r, D)) ((j + 1, rowsJ v.rows n f gs (j + 1), a55, c55, ⟨(encGs f (gs.take (j + 1))).length, 0⟩, l55)) [613, 611, 612, 600] rfl (by rw [hnote, encGs_snoc hg]; rfl) (.nil _) (.cons rfl (.cons rfl (.cons rfl (.nil _)))) (by
            try dsimp only
            exact ⟨by omega, rfl, by rw [take_snoc hg, List.flatten_append, ← List.append_assoc]; simpa using hl55, rfl⟩) (by
            try dsimp only
            omega)
    · -- hj-
      have hjl : j = gs.length := by omega
      subst hjl
      have htn : t ≠ [] := fun h => by subst h; rw [List.take_length] at hr2; rw [List.append_nil] at hc29; omega
      have hno := torn_no ht htn hf
      rw [hr, List.take_length]
      refine w_region (zm rfl (wl_op [600] rfl rfl rfl rfl (op_fn Try.func74 rfl rfl rfl (dec_no hno hsz)) ?_))
      rintro _ _ ⟨rfl, rfl⟩
      refine zm rfl (zd rfl (op_extract rfl rfl) (zd rfl (op_extract rfl rfl) (zd rfl (op_extract rfl rfl) (za rfl (za rfl (za rfl (wl_nil (st_tn (w_seq (w_seq (w_region (zm rfl (zd rfl (op_not_f rfl) ?_)))))))))))))
      refine wl_nil (st_tn (w_cond_t (rfl) ?_))
      refine w_seq (w_region (za rfl (wl_nil (st_tn (w_ret (st_tr (st_br (st_tr (st_br (st_tr (st_ret (vs := [_]) [611, 612, 613] Try.results53 ⟨rfl, trivial⟩ rfl ?_)))))))))))
      refine ⟨[(611, _), (612, _), (613, _)], rfl, ?_⟩
      rw [List.take_length] at hD
      rw [hfin] at hRj
      subst hRj
      exact ⟨a2, c2, D, hD, rfl, rfl⟩
  · -- c29.f
    refine w_exit (st_te ?_)
    refine st_te ?_
    refine st_be (st_tn (w_seq (w_region (za rfl (wl_nil (st_tn (w_ret (st_ret (vs := [_]) [611, 612, 613] Try.results53 ⟨rfl, trivial⟩ rfl ?_))))))))
    refine ⟨[(611, _), (612, _), (613, _)], rfl, ?_⟩
    have hjl : j = gs.length := by
      apply Classical.byContradiction
      intro hne
      obtain ⟨g, hg⟩ := getE (l := gs) (i := j) (by omega)
      have h1 := encGs_at (f := f) hg
      have h2 := congrArg List.length h1
      have h3 := encG_pos (fJ f gs j) g
      rw [List.length_append, List.length_append] at h2
      have h4 : (encGs f gs ++ t).length = (encGs f gs).length + t.length := List.length_append
      omega
    subst hjl
    rw [List.take_length] at hD
    rw [hfin] at hRj
    subst hRj
    exact ⟨a2, c2, D, hD, rfl, rfl⟩
end Go.Proofs.Ytcbigmgakdanjaa
namespace Go.Proofs.Ytcbigmgakdanjaa
open Go Go.SL Go.RowKit Go.RdM Go.WalM
set_option linter.unusedVariables false
set_option linter.unusedSimpArgs false
end Go.Proofs.Ytcbigmgakdanjaa
namespace Go.Proofs.Ytcbigmgakdanjaa
open Go Go.SL Go.RowKit Go.RdM Go.WalM
set_option linter.unusedVariables false
set_option linter.unusedSimpArgs false
theorem tB76wn : placesB Try.prog 76 = some ([(0, 1), (1, 1), (2, 1), (3, 1), (4, 1), (5, 1), (6, 1)], [Value.pointer none, Value.string .empty, Value.slice none 0 0, Value.map none, Value.slice none 0 0, Value.bool false, Value.bool false]) := by kernel_rfl
theorem tO9wn : oneB Try.prog 9 = true := by kernel_rfl
theorem tS35wn : sliceB Try.prog 35 9 1 = true := by kernel_rfl
theorem read_at {s : DskM.St} (hg : DskM.Good s) (hdn : s.down = false) {p : RdM.Bs × DskM.Fl} (hp : p ∈ s.fs) (d : Bool) : DskM.readO s p.1 d = (if d = true then p.2.data.take p.2.syn else p.2.data, 0) := by
  have h1 : ¬ DskM.readyE s [p.1] ≠ 0 := by
    unfold DskM.readyE; rw [if_neg (by simp [hdn]), if_pos (by simp [hg.nam p hp])]; simp
  unfold DskM.readO
  rw [if_neg h1, DskM.find_of hg.inc hp]
theorem name_64 {s : DskM.St} (hg : DskM.Good s) : ∀ p ∈ s.fs, p.1.length ≤ 64 := fun p hp => by
  have := hg.nam p hp
  rw [nameB_iff] at this
  exact (of_decide_eq_true this).2.1
theorem holds_len : ∀ {f : Nat} {segs : List Sg} {Q : List (Nat × DskM.Fl)}, Holds f segs Q → Q.length = segs.length
  | _, [], [], _ => rfl
  | f, x :: xs, q :: r, h => by rw [List.length_cons, List.length_cons, holds_len h.2.2]
  | _, [], _ :: _, h => h.elim
  | _, _ :: _, [], h => h.elim
theorem holds_at : ∀ {f : Nat} {segs : List Sg} {Q : List (Nat × DskM.Fl)} {k : Nat} {q : Nat × DskM.Fl}, Holds f segs Q → Q[k]? = some q → ∃ x, segs[k]? = some x ∧ q.1 = x.num ∧ ∃ t, Torn (f + (allR (segs.take k)).length + x.recs.length) t ∧ q.2.data = encGs (f + (allR (segs.take k)).length) x.gs ++ t
  | _, [], [], k, q, _, hq => by simp at hq
  | f, x :: xs, p :: r, 0, q, h, hq => by
    simp at hq; subst hq
    exact ⟨x, rfl, h.1, by simpa [allR] using h.2.1⟩
  | f, x :: xs, p :: r, k + 1, q, h, hq => by
    obtain ⟨y, h1, h2, h3⟩ := holds_at h.2.2 (k := k) (q := q) (by simpa using hq)
    refine ⟨y, by simpa using h1, h2, ?_⟩
    rw [List.take_succ_cons, allR_cons, List.length_append, ← Nat.add_assoc]
    exact h3
  | _, [], _ :: _, _, _, h, _ => h.elim
  | _, _ :: _, [], _, _, h, _ => h.elim
def rawL (L : Lg) : Lr := ⟨rowsOf L.first L.segs, L.pend, L.fresh, L.broken⟩
theorem rows_last {f : Nat} {S : List Sg} {x : Sg} : (rowsOf f (S ++ [x])).getLast? = some (x.num, f + (allR S).length, f + (allR S).length + x.recs.length - 1, x.gs.length) := by
  rw [rowsOf_app, rowsOf_one, List.getLast?_concat]
theorem rows_mem : ∀ {f : Nat} {S : List Sg} {r : Row}, r ∈ rowsOf f S → ∃ x ∈ S, r.1 = x.num ∧ r.2.2.2 = x.gs.length
  | _, [], _, h => by simp [rowsOf] at h
  | f, x :: S, r, h => by
    rw [rowsOf] at h
    rcases List.mem_cons.1 h with rfl | h
    · exact ⟨x, by simp, rfl, rfl⟩
    · obtain ⟨y, h1, h2⟩ := rows_mem h
      exact ⟨y, by simp [h1], h2⟩
theorem lastV_rows {f : Nat} {S : List Sg} {pend : List RdM.Bs} {fr : Bool} (hg : ∀ x ∈ S, x.gs ≠ [] ∧ ∀ g ∈ x.gs, OkG g) (hS : S ≠ []) : lastV ⟨rowsOf f S, pend, fr, false⟩ + 1 = f + (allR S).length := by
  rcases List.eq_nil_or_concat S with h | ⟨S', x, rfl⟩
  · exact absurd h hS
  · rw [List.concat_eq_append] at hg ⊢
    have h0 := OkG.recs (hg x (by simp))
    unfold lastV
    dsimp only
    rw [if_neg (by simp), rows_last, allR_app, allR_one, List.length_append]
    dsimp only
    omega
theorem recs_le {S : List Sg} {x : Sg} (h : x ∈ S) : x.recs.length ≤ (allR S).length := by
  induction S with
  | nil => simp at h
  | cons y S ih =>
    rw [allR_cons, List.length_append]
    rcases List.mem_cons.1 h with rfl | h
    · omega
    · have := ih h; omega
theorem gs_le {x : Sg} (h : x.gs ≠ [] ∧ ∀ g ∈ x.gs, OkG g) : x.gs.length ≤ x.recs.length := gs_len h.2
theorem allR_take_le (S : List Sg) (k : Nat) : (allR (S.take k)).length ≤ (allR S).length := by
  conv => rhs; rw [← List.take_append_drop k S, allR_app]
  rw [List.length_append]; omega
theorem segs_le (nm : RdM.Bs) : ∀ fs : DskM.Files, (segsOf nm fs).length ≤ fs.length
  | [] => by simp [segsOf]
  | p :: fs => by
    have := segs_le nm fs
    rw [segsOf_cons, List.length_append, List.length_cons]
    cases parseN nm p.1 <;> simp <;> omega
theorem segs_take {nm : RdM.Bs} {fs : DskM.Files} {i : Nat} {p : RdM.Bs × DskM.Fl} (h : fs[i]? = some p) : segsOf nm (fs.take (i + 1)) = segsOf nm (fs.take i) ++ (match parseN nm p.1 with | some n => [(n, p.2)] | none => []) := by
  rw [take_snoc h, segsOf_app, segsOf_cons, segsOf_nil, List.append_nil]
  cases parseN nm p.1 <;> rfl
theorem segs_get {nm : RdM.Bs} {fs : DskM.Files} {i n : Nat} {p : RdM.Bs × DskM.Fl} (h : fs[i]? = some p) (hn : parseN nm p.1 = some n) : (segsOf nm fs)[(segsOf nm (fs.take i)).length]? = some (n, p.2) := by
  have hlt := (List.getElem?_eq_some_iff.1 h).1
  have hre := (List.getElem?_eq_some_iff.1 h).2
  have hspl : fs = fs.take i ++ p :: fs.drop (i + 1) := by rw [← hre, ← List.drop_eq_getElem_cons hlt, List.take_append_drop]
  conv => lhs; rw [hspl]
  rw [segsOf_app, segsOf_cons, hn]
  have : (fs.take i ++ p :: fs.drop (i + 1)).take i = fs.take i := by rw [← hspl]
  rw [this, List.getElem?_append_right (Nat.le_refl _), Nat.sub_self]; rfl
theorem opt_none {α : Type} {o : Option α} (h : ¬ o.isSome = true) : o = none := by cases o <;> simp at h ⊢
theorem pw_take {α : Type} {R : α → α → Prop} {l : List α} {k : Nat} {x y : α} (h : l.Pairwise R) (hx : l[k]? = some x) (hy : y ∈ l.take k) : R y x := by
  have hlt := (List.getElem?_eq_some_iff.1 hx).1
  have hre := (List.getElem?_eq_some_iff.1 hx).2
  have hspl : l = l.take k ++ x :: l.drop (k + 1) := by rw [← hre, ← List.drop_eq_getElem_cons hlt, List.take_append_drop]
  rw [hspl, List.pairwise_append] at h
  exact h.2.2 y hy x (by simp)
set_option maxHeartbeats 4000000 in
set_option maxRecDepth 100000 in
theorem open_ok {σ : World} {F : List Res} {d mm : Nat} {s : DskM.St} {lf : DskM.Files} {nm : RdM.Bs} {first : Nat} {segs : List Sg} (hok : DskM.nameB nm = true ∧ nm.length ≤ 48) (hdn : s.down = false) (hgD : DskM.Good s) (hpD : lf.Perm s.fs) (hdk : Ent σ F (At ⟨d, 0, none⟩ (cellD s mm))) (hmk : Mr σ F KL DskM.encF (.map (some mm)) lf)
    (hS : OkS first segs) (hH : Holds first segs (segsOf nm s.fs)) (hT : first + (allR segs).length ≤ 1099511627776) :
    FnT Try.prog σ F 16 [.pointer (some ⟨d, 0, none⟩), .string (str nm)] [] (fun u ρ => ∃ b m a c l, IsMap l first (allR segs) ∧ u = .tuple #[.pointer (some ⟨b, 0, none⟩), .int .i64 0] ∧ ρ = [(611, cel b (cellL d nm ⟨rowsOf first segs, [], true, false⟩ m a c none 0) 76), (612, slW 87 encRow 4 (.slice a (rowsOf first segs).length c) (rowsOf first segs)), (613, mp KZ encSV m l), (614, slW 9 encT 1 (.slice none 0 0) ([] : List RdM.Bs))]) := by
  refine fn_of 54 Try.func16 rfl Try.ntmps16 rfl ?_
  have hkl : (keysOf s.fs).length = s.fs.length := List.length_map ..
  have hfl := hgD.cnt
  have hsl := segs_le nm s.fs
  have hlen := holds_len hH
  have hN64 := name_64 hgD
  have hcap := hgD.cap
  have huse := hgD.use
  refine w_seq (w_region (za rfl (za rfl (wl_nil (st_tn (w_seq (w_block (w_seq (w_region (zm rfl (zd rfl (op_val (v' := .bool false) (by simp) (op_eqPtr rfl Try.underlying22)) ?_)))))))))))
  refine za rfl (wl_nil (st_tn (w_cond_f (rfl) ?_)))
  refine w_seq (w_region (zm rfl (zd rfl (op_val (v' := .bool true) (by rw [hok.1]) (op_fn Try.func50 rfl rfl rfl (isName_any nm (by unfold maxLen; omega)))) ?_)))
  refine zd rfl (op_not_t rfl) (zm rfl (wl_wanted_det rfl rfl rfl rfl rfl rfl rfl (op_move rfl) (wl_wanted_det rfl rfl rfl rfl rfl rfl rfl (op_lenBs rfl Try.underlying9) (wl_wanted_det rfl rfl rfl rfl rfl rfl rfl (op_val (v' := .bool false) (by rw [decide_eq_false (by omega)]) (op_gtr rfl rfl)) ?_))))
  refine zd rfl (op_pick_f rfl rfl) (za rfl (wl_nil (st_tn (w_cond_f (rfl) ?_))))
  refine w_seq (w_region (zm rfl (zd rfl (op_val (v' := .bool false) (by rw [hdn]) (op_fn Try.func37 rfl rfl rfl (down_any s (Ent.app hdk _)))) ?_)))
  refine za rfl (wl_nil (st_tn (w_cond_f (rfl) ?_)))
  refine w_skip (st_bn (st_tn (w_seq (w_region (zm rfl (zm rfl (wl_op [] rfl rfl rfl rfl (op_makeMap (kt := KZ) (encV := encSV) (lab := 613)) ?_)))))))
  rintro _ _ ⟨m29, rfl, rfl⟩
  refine zd rfl (op_build tB76wn rfl rfl) (wl_op [] rfl rfl rfl rfl (op_box (T := 76) (l := 611) rfl) ?_)
  rintro _ _ ⟨b31, rfl, rfl⟩
  refine za rfl (wl_nil (st_tn (w_seq (w_seq (w_emp 612 (slO_nil 87 4) ?_)))))
  refine w_emp 614 (slO_nil 9 1) ?_
  refine w_region (zm rfl (wl_op [] rfl rfl rfl rfl (op_fn Try.func51 rfl rfl rfl (list_to (k := keysOf s.fs) (by unfold listO; rw [if_neg (by simp [hdn])]) 33 hgD hpD (Ent.app hdk _) (Ent.app hmk _))) ?_))
  rintro _ _ ⟨a33, c33, rfl, rfl⟩
  refine zd rfl (op_lenT rfl tS35wn (Sl.ent (Sl.lab 33 rfl (by have : (keysOf s.fs).length = s.fs.length := List.length_map ..; unfold maxLen; omega)))) ?_
  refine zm rfl (wl_nil (st_tn (w_block ?_)))
  refine w_loopQ (X := Nat × Nat × OA × Nat × List (Int × List UInt8)) (fun z => z.1 ≤ (keysOf s.fs).length ∧ z.2.1 = (segsOf nm (s.fs.take z.1)).length ∧ IsMap z.2.2.2.2 first (allR (segs.take z.2.1))) (fun z => [(35, .int .i64 (z.1))]) (fun z => [(613, mp KZ encSV m29 (z.2.2.2.2)), (611, cel b31 (cellL d nm ⟨rowsOf first (segs.take (z.2.1)), [], true, false⟩ m29 (z.2.2.1) (z.2.2.2.1) none 0) 76), (612, slW 87 encRow 4 (.slice (z.2.2.1) (rowsOf first (segs.take (z.2.1))).length (z.2.2.2.1)) (rowsOf first (segs.take (z.2.1))))]) (fun z => (keysOf s.fs).length - z.1) ((0, 0, none, 0, [])) [(6, _), (33, _), (34, _)] [(614, _), (33, _)] [613, 611, 612, 614, 33] rfl (rfl) (.cons rfl (.nil _)) (.cons rfl (.cons rfl (.cons rfl (.nil _)))) (by
      try dsimp only
      exact ⟨Nat.zero_le _, by simp [segsOf_nil], by simpa [allR] using IsMap.nil first⟩) ?_
  rintro ⟨i, k, a2, c2, D⟩ ⟨hi, hk, hD⟩
  refine w_norm2 (by dsimp only [List.cons_append, List.nil_append]) (by dsimp only [List.cons_append, List.nil_append]) ?_
  try dsimp only at hi hk hD ⊢
  refine w_seq (w_region (zd rfl (op_lss rfl rfl) (wl_nil (st_tn (w_seq (w_cond_d rfl (fun hc36 => ?_) (fun hc36 => ?_)))))))
  · -- c36.t
    obtain ⟨p, hp⟩ := getE (l := s.fs) (i := i) (by have : (keysOf s.fs).length = s.fs.length := List.length_map ..; omega)
    have hkp : (keysOf s.fs)[i]? = some p.1 := by unfold keysOf; rw [List.getElem?_map, hp]; rfl
    have hpm := List.mem_of_getElem? hp
    have hp64 := hN64 p hpm
    refine w_skip (st_tn (w_seq (w_block (w_seq (w_region (zd rfl (op_idx rfl rfl tS35wn (Sl.ent (Sl.lab 33 rfl (by have : (keysOf s.fs).length = s.fs.length := List.length_map ..; unfold maxLen; omega))) (by omega)) ?_))))))
    refine zd rfl (op_ldx rfl tO9wn (Sl.lab 33 rfl (by have : (keysOf s.fs).length = s.fs.length := List.length_map ..; unfold maxLen; omega)) (by assumption) (by rfl)) ?_
    refine za rfl (wl_nil (st_tn (w_seq ?_)))
    by_cases hpn : (parseN nm p.1).isSome = true
    · -- hpn+
      obtain ⟨n, hn⟩ := Option.isSome_iff_exists.1 hpn
      obtain ⟨hpe, hn1, hn2⟩ := parse_some hn
      have hget := segs_get hp hn
      rw [← hk] at hget
      obtain ⟨x, hx, hxn, t, htorn, hdat⟩ := holds_at hH hget
      dsimp only at hxn hdat
      have hxm := List.mem_of_getElem? hx
      have hxg := hS.grp x hxm
      have hsn : segs.take (k + 1) = segs.take k ++ [x] := take_snoc hx
      have hall := allR_take_le segs (k + 1)
      rw [hsn, allR_app, allR_one, List.length_append] at hall
      have hread := read_at hgD hdn hpm false
      rw [if_neg (by simp), hdat, hpe] at hread
      have hus := le_used hpm
      rw [hdat] at hus
      have hrows : rowsOf first (segs.take k) ++ [(n, first + (allR (segs.take k)).length, first + (allR (segs.take k)).length + x.gs.flatten.length - 1, x.gs.length)] = rowsOf first (segs.take (k + 1)) := by
        rw [hsn, rowsOf_app, rowsOf_one, hxn]; rfl
      have hgrt : ∀ y ∈ segs.take k, y.gs ≠ [] ∧ ∀ g ∈ y.gs, OkG g := fun y hy => hS.grp y (List.mem_of_mem_take hy)
      have hrl := rowsOf_len (segs.take k) first
      rw [List.length_take] at hrl
      refine w_region (zm rfl (zm rfl (zd rfl (op_val (v' := .tuple #[.int .i64 (n : Int), .bool true]) (by rw [hn]; rfl) (op_fn Try.func52 rfl rfl rfl (parse_any p.1 (by omega) (by omega) (celLg 611 rfl)))) ?_)))
      refine zm rfl (zd rfl (op_extract rfl rfl) (zd rfl (op_extract rfl rfl) (za rfl (za rfl (wl_nil (st_tn (w_seq (w_region (zm rfl (wl_nil (st_tn (w_cond_t (rfl) ?_))))))))))))
      refine w_seq (w_region (zm rfl (zm rfl (wl_op [611, 612, 613] rfl rfl rfl rfl (op_fn Try.func53 rfl rfl rfl (load_any (F0 := first) (v := ⟨rowsOf first (segs.take k), [], true, false⟩) (all := allR (segs.take k)) (gs := x.gs) (t := t) n (first + (allR (segs.take k)).length) hgD hpD (Ent.app hdk _) (Ent.app hmk _) hread (by omega) hn2 hxg.1 hxg.2 htorn (by omega) (by show _ + x.recs.length ≤ _; omega) hD rfl rfl (fun h => lastV_rows hgrt (fun h2 => h (by rw [h2]; rfl))) (fun r hr => by obtain ⟨y, hy, hy2, _⟩ := rows_mem (List.mem_of_getLast? hr); rw [hy2, hxn]; have := pw_take hS.inc hx hy; omega) (by show (rowsOf first (segs.take k)).length ≤ _; omega) (fun r hr => by obtain ⟨y, hy, _, hy3⟩ := rows_mem hr; rw [hy3]; have h1 := gs_le (hgrt y hy); have h2 := recs_le (List.mem_of_mem_take hy); omega))) ?_))))
      rintro _ _ ⟨a48, c48, l48, hl48, rfl, rfl⟩
      refine za rfl (wl_nil (st_tn (w_seq (w_region (zm rfl (zd rfl (op_val (v' := .bool false) (by rfl) (op_neq rfl rfl)) ?_))))))
      refine wl_nil (st_tn (w_cond_f (rfl) ?_))
      refine w_skip (st_bn (st_tn (w_region (zd rfl (op_add' rfl rfl (by omega)) ?_))))
      refine zm rfl (wl_nil ?_)
      refine st_roundQ (x := (i, k, a2, c2, D)) ((i + 1, k + 1, a48, c48, l48)) [613, 611, 612, 614, 33] rfl (by dsimp only; rw [hrows]; rfl) (.cons rfl (.nil _)) (.cons rfl (.cons rfl (.cons rfl (.nil _)))) (by
          try dsimp only
          refine ⟨by omega, ?_, ?_⟩
          · rw [segs_take hp, hn, List.length_append, ← hk]; rfl
          · rw [take_snoc hx, allR_app, allR_one]; exact hl48) (by
          try dsimp only
          omega)
    · -- hpn-
      have hn : parseN nm p.1 = none := opt_none hpn
      refine w_region (zm rfl (zm rfl (zd rfl (op_val (v' := .tuple #[.int .i64 0, .bool false]) (by rw [hn]; rfl) (op_fn Try.func52 rfl rfl rfl (parse_any p.1 (by omega) (by omega) (celLg 611 rfl)))) ?_)))
      refine zm rfl (zd rfl (op_extract rfl rfl) (zd rfl (op_extract rfl rfl) (za rfl (za rfl (wl_nil (st_tn (w_seq (w_region (zm rfl (wl_nil (st_tn (w_cond_f (rfl) ?_))))))))))))
      refine w_skip (st_bn (st_tn (w_region (zd rfl (op_add' rfl rfl (by omega)) ?_))))
      refine zm rfl (wl_nil ?_)
      refine st_roundQ (x := (i, k, a2, c2, D)) ((i + 1, k, a2, c2, D)) [613, 611, 612, 614, 33] rfl (rfl) (.cons rfl (.nil _)) (.cons rfl (.cons rfl (.cons rfl (.nil _)))) (by
          try dsimp only
          refine ⟨by omega, ?_, hD⟩
          rw [segs_take hp, hn, List.append_nil, ← hk]) (by
          try dsimp only
          omega)
  · -- c36.f
    refine w_exit (st_te ?_)
    refine st_te ?_
    refine st_be (st_tn (w_seq (w_region (zm rfl (za rfl (za rfl (wl_nil (st_tn (w_ret (st_ret (vs := [_, _]) [611, 612, 613, 614] Try.results16 ⟨rfl, ⟨rfl, trivial⟩⟩ rfl ?_))))))))))
    refine ⟨[(611, _), (612, _), (613, _), (614, _)], rfl, ?_⟩
    have hke : k = segs.length := by rw [hk, take_all (by have : (keysOf s.fs).length = s.fs.length := List.length_map ..; omega), hlen]
    rw [take_all (by omega)] at hD ⊢
    exact ⟨b31, m29, a2, c2, D, hD, rfl, rfl⟩
end Go.Proofs.Ytcbigmgakdanjaa
namespace Go.Proofs.Ytcbigmgakdanjaa
open Go Go.SL Go.RowKit Go.RdM Go.WalM
set_option linter.unusedVariables false
set_option linter.unusedSimpArgs false
theorem fn_ro {P : Program} {σ : World} {F : List Res} {f : Nat} {args : List Value} (R : RL) {S : Value → RL → Prop} (h : FnT P σ (rs R ++ F) f args [] S) : FnT P σ F f args R (fun u ρ => ∃ ρ0, S u ρ0 ∧ ρ = ρ0 ++ R) := fun w hw => (h w hw).mono fun ex w' ⟨v, ρ, e1, e2, e3⟩ => ⟨v, ρ ++ R, e1, ⟨ρ, e2, rfl⟩, by unfold rs at e3 ⊢; rw [List.map_append, List.append_assoc]; exact e3⟩
theorem fn_fr {P : Program} {σ : World} {F : List Res} {f : Nat} {args : List Value} (R R2 : RL) {S : Value → RL → Prop} (h : FnT P σ (rs R2 ++ F) f args R S) : FnT P σ F f args (R ++ R2) (fun u ρ => ∃ ρ0, S u ρ0 ∧ ρ = ρ0 ++ R2) := fun w hw => (h w (by unfold rs at hw ⊢; rw [List.map_append, List.append_assoc] at hw; exact hw)).mono fun ex w' ⟨v, ρ, e1, e2, e3⟩ => ⟨v, ρ ++ R2, e1, ⟨ρ, e2, rfl⟩, by unfold rs at e3 ⊢; rw [List.map_append, List.append_assoc]; exact e3⟩
def dkR (d : Nat) (s : DskM.St) : Res := fun mem => ∃ i : Nat × DskM.Files, i.2.Perm s.fs ∧ star (cel d (cellD s i.1) 90) (mp KL DskM.encF i.1 i.2) mem
abbrev DkI (s : DskM.St) := {i : Nat × DskM.Files // i.2.Perm s.fs}
theorem dk_opens {σ : World} (d : Nat) (s : DskM.St) : Opens σ [dkR d s] (DkI s) (fun i => [cel d (cellD s i.1.1) 90, mp KL DskM.encF i.1.1 i.1.2]) := fun F w h => by
  obtain ⟨i, h1⟩ := own_ex h
  obtain ⟨h2, h3⟩ := own_and h1
  exact ⟨⟨i, h2⟩, h3.unstar⟩
theorem dk_closes {σ : World} {d m : Nat} {s : DskM.St} {l : DskM.Files} (h : l.Perm s.fs) : Closes σ [cel d (cellD s m) 90, mp KL DskM.encF m l] [dkR d s] := fun F w hw => (hw.star).imp fun mem hm => ⟨(m, l), h, hm⟩
section
variable {σ : World} {F : List Res} {d : Nat} {s : DskM.St}
theorem dk_ro {f : Nat} {args : List Value} {v : Value} (lab : Nat) (h : ∀ F m l, l.Perm s.fs → Ent σ F (At ⟨d, 0, none⟩ (cellD s m)) → Mr σ F KL DskM.encF (.map (some m)) l → FnT Try.prog σ F f args [] (fun u ρ => u = v ∧ ρ = [])) : FnT Try.prog σ F f args [(lab, dkR d s)] (fun u ρ => u = v ∧ ρ = [(lab, dkR d s)]) :=
  fn_oc (dk_opens d s) rfl (R := fun i => [(601, cel d (cellD s i.1.1) 90), (602, mp KL DskM.encF i.1.1 i.1.2)]) (fun i => rfl) (fun i => fn_ro _ (h _ i.1.1 i.1.2 i.2 (Ent.lab (l := 601) rfl (says_cel 0)) (Mr.lab 602 rfl)))
    fun i u ρ ⟨ρ0, h1, h2⟩ => ⟨_, ⟨h1.1, rfl⟩, by rw [h2, h1.2]; exact dk_closes i.2⟩
theorem dk_wr {f : Nat} {args : List Value} {v : Value} {s' : DskM.St} (lab : Nat) (h : ∀ m l, l.Perm s.fs → FnT Try.prog σ F f args [(601, cel d (cellD s m) 90), (602, mp KL DskM.encF m l)] (fun u ρ => ∃ l', l'.Perm s'.fs ∧ u = v ∧ ρ = [(601, cel d (cellD s' m) 90), (602, mp KL DskM.encF m l')])) : FnT Try.prog σ F f args [(lab, dkR d s)] (fun u ρ => u = v ∧ ρ = [(lab, dkR d s')]) :=
  fn_oc (dk_opens d s) rfl (R := fun i => [(601, cel d (cellD s i.1.1) 90), (602, mp KL DskM.encF i.1.1 i.1.2)]) (fun i => rfl) (fun i => h i.1.1 i.1.2 i.2)
    fun i u ρ ⟨l', h1, h2, h3⟩ => ⟨_, ⟨h2, rfl⟩, by rw [h3]; exact dk_closes h1⟩
variable (lab : Nat)
theorem dapp_c (n x : RdM.Bs) (hg : DskM.Good s) (hn : n.length ≤ maxLen) (hx : x.length ≤ 1099511627776) : FnT Try.prog σ F 44 [.pointer (some ⟨d, 0, none⟩), .string (str n), .string (str x)] [(lab, dkR d s)] (fun u ρ => u = .int .i64 (DskM.appO s n x).1 ∧ ρ = [(lab, dkR d (DskM.appO s n x).2)]) := dk_wr lab fun m l hp => append_any n x hg hp hn hx
theorem dsyn_c (n : RdM.Bs) (hg : DskM.Good s) (hn : n.length ≤ maxLen) : FnT Try.prog σ F 48 [.pointer (some ⟨d, 0, none⟩), .string (str n)] [(lab, dkR d s)] (fun u ρ => u = .int .i64 (DskM.synO s n).1 ∧ ρ = [(lab, dkR d (DskM.synO s n).2)]) := dk_wr lab fun m l hp => sync_any n hg hp hn
theorem drem_c (n : RdM.Bs) (hg : DskM.Good s) (hn : n.length ≤ maxLen) : FnT Try.prog σ F 58 [.pointer (some ⟨d, 0, none⟩), .string (str n)] [(lab, dkR d s)] (fun u ρ => u = .int .i64 (DskM.remO s n).1 ∧ ρ = [(lab, dkR d (DskM.remO s n).2)]) := dk_wr lab fun m l hp => remove_any n hg hp hn
theorem dstart_c {a : Option Addr} {c : Nat} {sc : List Int} (hg : DskM.Good s) (hsc : Sl σ F SL.encZ 1 (.slice a sc.length c) sc) : FnT Try.prog σ F 38 [.pointer (some ⟨d, 0, none⟩), .slice a sc.length c] [(lab, dkR d s)] (fun u ρ => u = .tuple #[] ∧ ρ = [(lab, dkR d (DskM.staO s sc))]) := dk_wr lab fun m l hp => start_any hg hp hsc
theorem dlimit_c (k : Int) : FnT Try.prog σ F 36 [.pointer (some ⟨d, 0, none⟩), .int .i64 k] [(lab, dkR d s)] (fun u ρ => u = .tuple #[] ∧ ρ = [(lab, dkR d (DskM.limO s k))]) :=
  fn_oc (dk_opens d s) rfl (R := fun i => [(601, cel d (cellD s i.1.1) 90), (602, mp KL DskM.encF i.1.1 i.1.2)]) (fun i => rfl) (fun i => fn_fr [(601, cel d (cellD s i.1.1) 90)] [(602, mp KL DskM.encF i.1.1 i.1.2)] (limit_any (m := i.1.1) s k))
    fun i u ρ ⟨ρ0, h2, h3⟩ => ⟨_, ⟨h2.1, rfl⟩, by rw [h3, h2.2]; exact dk_closes (s := DskM.limO s k) i.2⟩
theorem ddown_c : FnT Try.prog σ F 37 [.pointer (some ⟨d, 0, none⟩)] [(lab, dkR d s)] (fun u ρ => u = .bool s.down ∧ ρ = [(lab, dkR d s)]) := dk_ro lab fun F m l hp hd hm => down_any s hd
theorem dnew_c (n : Int) (hn : 0 ≤ n ∧ n ≤ 67108864) : FnT Try.prog σ F 32 [.int .i64 n] [] (fun u ρ => ∃ d, u = .tuple #[.pointer (some ⟨d, 0, none⟩), .int .i64 0] ∧ ρ = [(lab, dkR d (newS n))]) :=
  fn_mono (new_ok n 601 602 hn) fun u ρ w ⟨b, m, h1, h2⟩ ho => ⟨_, ⟨b, h1, rfl⟩, by subst h2; exact dk_closes (s := newS n) (List.Perm.refl _) _ _ ho⟩
end
end Go.Proofs.Ytcbigmgakdanjaa
namespace Go.Proofs.Ytcbigmgakdanjaa
open Go Go.SL Go.RowKit Go.RdM Go.WalM
set_option linter.unusedVariables false
set_option linter.unusedSimpArgs false
abbrev LgT := Nat × OA × Nat × OA × Nat × List (Int × List UInt8)
def cL (b d : Nat) (nm : RdM.Bs) (L : Lg) (i : LgT) : RL := [(611, cel b (cellL d nm (rawL L) i.1 i.2.1 i.2.2.1 i.2.2.2.1 i.2.2.2.2.1) 76), (612, slW 87 encRow 4 (.slice i.2.1 (rowsOf L.first L.segs).length i.2.2.1) (rowsOf L.first L.segs)), (613, mp KZ encSV i.1 i.2.2.2.2.2), (614, slW 9 encT 1 (.slice i.2.2.2.1 L.pend.length i.2.2.2.2.1) L.pend)]
def lgR (b d : Nat) (nm : RdM.Bs) (L : Lg) : Res := fun mem => ∃ i : LgT, IsMap i.2.2.2.2.2 L.first (allR L.segs) ∧ star (cel b (cellL d nm (rawL L) i.1 i.2.1 i.2.2.1 i.2.2.2.1 i.2.2.2.2.1) 76) (star (slW 87 encRow 4 (.slice i.2.1 (rowsOf L.first L.segs).length i.2.2.1) (rowsOf L.first L.segs)) (star (mp KZ encSV i.1 i.2.2.2.2.2) (slW 9 encT 1 (.slice i.2.2.2.1 L.pend.length i.2.2.2.2.1) L.pend))) mem
abbrev LgI (L : Lg) := {i : LgT // IsMap i.2.2.2.2.2 L.first (allR L.segs)}
theorem unstar_at {σ : World} (A : List Res) {r r' : Res} {F : List Res} {w : World} (h : SL.Own σ (A ++ star r r' :: F) w) : SL.Own σ (A ++ r :: r' :: F) w := by
  have h1 := (h.perm List.perm_middle).unstar
  exact h1.perm ((List.perm_middle.trans (List.perm_middle.cons _)).symm)
theorem star_at {σ : World} (A : List Res) {r r' : Res} {F : List Res} {w : World} (h : SL.Own σ (A ++ r :: r' :: F) w) : SL.Own σ (A ++ star r r' :: F) w := by
  have h1 := (h.perm (List.perm_middle.trans (List.perm_middle.cons _))).star
  exact h1.perm List.perm_middle.symm
theorem own_un4 {σ : World} {r1 r2 r3 r4 : Res} {F : List Res} {w : World} (h : SL.Own σ (star r1 (star r2 (star r3 r4)) :: F) w) : SL.Own σ (r1 :: r2 :: r3 :: r4 :: F) w :=
  unstar_at [r1, r2] (unstar_at [r1] h.unstar)
theorem own_st4 {σ : World} {r1 r2 r3 r4 : Res} {F : List Res} {w : World} (h : SL.Own σ (r1 :: r2 :: r3 :: r4 :: F) w) : SL.Own σ (star r1 (star r2 (star r3 r4)) :: F) w :=
  (star_at [r1] (star_at [r1, r2] h)).star
theorem lg_opens {σ : World} (b d : Nat) (nm : RdM.Bs) (L : Lg) : Opens σ [lgR b d nm L] (LgI L) (fun i => rs (cL b d nm L i.1)) := fun F w h => by
  obtain ⟨i, h1⟩ := own_ex h
  obtain ⟨h2, h3⟩ := own_and h1
  exact ⟨⟨i, h2⟩, own_un4 h3⟩
theorem lg_closes {σ : World} {b d : Nat} {nm : RdM.Bs} {L : Lg} (i : LgT) (h : IsMap i.2.2.2.2.2 L.first (allR L.segs)) : Closes σ (rs (cL b d nm L i)) [lgR b d nm L] := fun F w hw => (own_st4 hw).imp fun mem hm => ⟨i, h, hm⟩
structure OkL (L : Lg) : Prop where
  seg : OkS L.first L.segs
  pc : ∀ r ∈ L.pend, r.length ≤ 65536
  pl : L.pend.length ≤ 256
  sz : L.first + (allR L.segs).length ≤ 1000000000000
theorem segs_le_all {segs : List Sg} (h : ∀ x ∈ segs, x.gs ≠ [] ∧ ∀ g ∈ x.gs, OkG g) : segs.length ≤ (allR segs).length := by
  induction segs with
  | nil => simp
  | cons x l ih =>
    have h1 := OkG.recs (h x (by simp))
    have h2 := ih fun y hy => h y (by simp [hy])
    rw [allR_cons, List.length_append, List.length_cons]; omega
theorem OkL.segl {L : Lg} (h : OkL L) : L.segs.length ≤ 1000000000000 := by have := segs_le_all h.seg.grp; have := h.sz; omega
theorem OkL.rowl {L : Lg} (h : OkL L) : (rowsOf L.first L.segs).length ≤ 1000000000000 := by rw [rowsOf_len]; exact h.segl
theorem OkL.rown {L : Lg} (h : OkL L) : ∀ r ∈ rowsOf L.first L.segs, r.1 ≤ 999999 ∧ r.2.2.2 ≤ 1000000000000 := fun r hr => by
  obtain ⟨x, hx, h1, h2⟩ := rows_mem hr
  have h3 := gs_le (h.seg.grp x hx)
  have h4 := recs_le hx
  have h5 := h.sz
  have h6 := h.seg.num x hx
  omega
theorem lastV_raw {L : Lg} (h : OkS L.first L.segs) : lastV (rawL L) = if L.broken = true then 0 else lastN L := by
  obtain ⟨first, segs, pend, fresh, broken⟩ := L
  cases broken with
  | true => rfl
  | false =>
    rw [if_neg (by simp)]
    by_cases hs : segs = []
    · subst hs
      have := h.nil rfl
      unfold lastN rawL lastV; simp [rowsOf, allR]; dsimp only at this; omega
    · have := lastV_rows (f := first) (S := segs) (pend := pend) (fr := fresh) h.grp hs
      show lastV ⟨rowsOf first segs, pend, fresh, false⟩ = first + (allR segs).length - 1
      omega
theorem firstV_raw {L : Lg} (h : OkS L.first L.segs) : firstV (rawL L) = if L.broken = true then 0 else L.first := by
  obtain ⟨first, segs, pend, fresh, broken⟩ := L
  cases broken with
  | true => rfl
  | false =>
    rw [if_neg (by simp)]
    cases segs with
    | nil => have := h.nil rfl; unfold firstV rawL; simp [rowsOf]; exact this.symm
    | cons x l => unfold firstV rawL; simp [rowsOf]
theorem recs_raw {L : Lg} (h : OkS L.first L.segs) {l : List (Int × List UInt8)} (hm : IsMap l L.first (allR L.segs)) : Recs (rawL L) l (allR L.segs) := fun hb => by
  have hb : L.broken = false := hb
  rw [lastV_raw h, firstV_raw h, if_neg (by simp [hb]), if_neg (by simp [hb])]
  refine ⟨hm, ?_⟩
  have := h.pos
  unfold lastN; omega
section
variable {σ : World} {F : List Res} {b d : Nat} {nm : RdM.Bs} {L : Lg}
theorem lg_ro {f : Nat} {args : List Value} {v : Value} (lab : Nat) (hL : OkL L) (h : ∀ F m a c p cp l, IsMap l L.first (allR L.segs) → Ent σ F (At ⟨b, 0, none⟩ (cellL d nm (rawL L) m a c p cp)) → Sl σ F encRow 4 (.slice a (rawL L).rows.length c) (rawL L).rows → Mr σ F KZ encSV (.map (some m)) l → Sl σ F encT 1 (.slice p (rawL L).pend.length cp) (rawL L).pend → FnT Try.prog σ F f args [] (fun u ρ => u = v ∧ ρ = [])) : FnT Try.prog σ F f args [(lab, lgR b d nm L)] (fun u ρ => u = v ∧ ρ = [(lab, lgR b d nm L)]) :=
  fn_oc (lg_opens b d nm L) rfl (R := fun i => cL b d nm L i.1) (fun i => rfl) (fun i => fn_ro _ (h _ i.1.1 i.1.2.1 i.1.2.2.1 i.1.2.2.2.1 i.1.2.2.2.2.1 i.1.2.2.2.2.2 i.2 (Ent.lab (l := 611) rfl (says_cel 0)) (Sl.lab 612 rfl (by have := hL.rowl; show (rowsOf L.first L.segs).length ≤ _; unfold maxLen; omega)) (Mr.lab 613 rfl) (Sl.lab 614 rfl (by have := hL.pl; show L.pend.length ≤ _; unfold maxLen; omega))))
    fun i u ρ ⟨ρ0, h1, h2⟩ => ⟨_, ⟨h1.1, rfl⟩, by rw [h2, h1.2]; exact lg_closes i.1 i.2⟩
theorem lg_roS {f : Nat} {args : List Value} {V : Option Addr → Nat → Value} {E : Nat} {out : List RdM.Bs} (lab lab2 : Nat) (hL : OkL L) (h : ∀ F m a c p cp l, IsMap l L.first (allR L.segs) → Ent σ F (At ⟨b, 0, none⟩ (cellL d nm (rawL L) m a c p cp)) → Sl σ F encRow 4 (.slice a (rawL L).rows.length c) (rawL L).rows → Mr σ F KZ encSV (.map (some m)) l → Sl σ F encT 1 (.slice p (rawL L).pend.length cp) (rawL L).pend → FnT Try.prog σ F f args [] (fun u ρ => ∃ a' c', u = V a' c' ∧ ρ = [(lab2, slW E encT 1 (.slice a' out.length c') out)])) : FnT Try.prog σ F f args [(lab, lgR b d nm L)] (fun u ρ => ∃ a' c', u = V a' c' ∧ ρ = [(lab, lgR b d nm L), (lab2, slW E encT 1 (.slice a' out.length c') out)]) :=
  fn_oc (lg_opens b d nm L) rfl (R := fun i => cL b d nm L i.1) (fun i => rfl) (fun i => fn_ro _ (h _ i.1.1 i.1.2.1 i.1.2.2.1 i.1.2.2.2.1 i.1.2.2.2.2.1 i.1.2.2.2.2.2 i.2 (Ent.lab (l := 611) rfl (says_cel 0)) (Sl.lab 612 rfl (by have := hL.rowl; show (rowsOf L.first L.segs).length ≤ _; unfold maxLen; omega)) (Mr.lab 613 rfl) (Sl.lab 614 rfl (by have := hL.pl; show L.pend.length ≤ _; unfold maxLen; omega))))
    fun i u ρ ⟨ρ0, ⟨a', c', h1, h3⟩, h2⟩ => ⟨_, ⟨a', c', h1, rfl⟩, by
      rw [h2, h3]
      intro F w hw
      have h4 : SL.Own σ (rs (cL b d nm L i.1) ++ ([slW E encT 1 (.slice a' out.length c') out] ++ F)) w := hw.perm (by
        show ([slW E encT 1 (.slice a' out.length c') out] ++ rs (cL b d nm L i.1) ++ F).Perm _
        rw [← List.append_assoc]; exact List.perm_append_comm.append_right F)
      exact lg_closes i.1 i.2 _ _ h4⟩
variable (lab : Nat) (hL : OkL L)
include hL
theorem llast_c : FnT Try.prog σ F 17 [.pointer (some ⟨b, 0, none⟩)] [(lab, lgR b d nm L)] (fun u ρ => u = .int .i64 ((if L.broken = true then 0 else lastN L : Nat) : Int) ∧ ρ = [(lab, lgR b d nm L)]) := by
  rw [← lastV_raw hL.seg]; exact lg_ro lab hL fun F m a c p cp l hm hd hs hm' hp => last_any hd hs
theorem lpending_c : FnT Try.prog σ F 21 [.pointer (some ⟨b, 0, none⟩)] [(lab, lgR b d nm L)] (fun u ρ => u = .int .i64 ((if L.broken = true then 0 else L.pend.length : Nat) : Int) ∧ ρ = [(lab, lgR b d nm L)]) :=
  lg_ro lab hL fun F m a c p cp l hm hd hs hm' hp => pending_any hd hp
theorem lsegm_c (lab2 : Nat) (hnm : nm.length ≤ 64) : FnT Try.prog σ F 18 [.pointer (some ⟨b, 0, none⟩)] [(lab, lgR b d nm L)] (fun u ρ => ∃ a' c', u = .slice a' (if L.broken = true then [] else L.segs.map fun x => fileN nm x.num).length c' ∧ ρ = [(lab, lgR b d nm L), (lab2, slW 9 encT 1 (.slice a' (if L.broken = true then [] else L.segs.map fun x => fileN nm x.num).length c') (if L.broken = true then [] else L.segs.map fun x => fileN nm x.num))]) := by
  have e : ∀ (f : Nat) (S : List Sg), (rowsOf f S).map (fun r => fileN nm r.1) = S.map fun x => fileN nm x.num := fun f S => by
    induction S generalizing f with
    | nil => rfl
    | cons x S ih => rw [rowsOf, List.map_cons, List.map_cons, ih]
  rw [← e L.first L.segs]
  exact lg_roS (V := fun a' c' => .slice a' _ c') lab lab2 hL fun F m a c p cp l hm hd hs hm' hp => segm_any lab2 hd hs (fun r hr => (hL.rown r hr).1) (by have := hL.rowl; show (rowsOf L.first L.segs).length ≤ _; omega) hnm
theorem lread_c (n : Int) (hn : -9223372036854775808 ≤ n ∧ n ≤ 9223372036854775807) : FnT Try.prog σ F 30 [.pointer (some ⟨b, 0, none⟩), .int .i64 n] [(lab, lgR b d nm L)] (fun u ρ => u = .tuple #[.string (str (rdS (rawL L) (allR L.segs) n)), .int .i64 (rdE (rawL L) n)] ∧ ρ = [(lab, lgR b d nm L)]) :=
  lg_ro lab hL fun F m a c p cp l hm hd hs hm' hp => lread_any n hn (recs_raw hL.seg hm) (by rw [lastV_raw hL.seg]; have := hL.sz; split; (· omega); (· unfold lastN; omega)) hd hs hm'
end
end Go.Proofs.Ytcbigmgakdanjaa
namespace Go.Proofs.Ytcbigmgakdanjaa
open Go Go.SL Go.RowKit Go.RdM Go.WalM
set_option linter.unusedVariables false
set_option linter.unusedSimpArgs false
theorem fn_pm {P : Program} {σ : World} {F : List Res} {f : Nat} {args : List Value} {R R' : RL} {S : Value → RL → Prop} (h : FnT P σ F f args R S) (hp : (rs R').Perm (rs R)) : FnT P σ F f args R' S := fun w hw => h w (hw.perm (hp.append_right F))
theorem Closes.pm {σ : World} {B A C : List Res} (hp : B.Perm A) (h : Closes σ A C) : Closes σ B C := fun F w hw => h F w (hw.perm (hp.append_right F))
theorem pm_in {α : Type} (a b c d : α) : [a, b, c, d].Perm [a, d, b, c] := (List.Perm.cons a (List.perm_append_comm (l₁ := [b, c]) (l₂ := [d])))
section
variable {σ : World} {F : List Res} {b d : Nat} {nm : RdM.Bs} {L : Lg}
theorem lg_wp {f : Nat} {args : List Value} {v : Value} {L' : Lg} (lab : Nat) (h : ∀ i : LgT, IsMap i.2.2.2.2.2 L.first (allR L.segs) → FnT Try.prog σ F f args (cL b d nm L i) (fun u ρ => ∃ i' : LgT, IsMap i'.2.2.2.2.2 L'.first (allR L'.segs) ∧ u = v ∧ (rs ρ).Perm (rs (cL b d nm L' i')))) : FnT Try.prog σ F f args [(lab, lgR b d nm L)] (fun u ρ => u = v ∧ ρ = [(lab, lgR b d nm L')]) :=
  fn_oc (lg_opens b d nm L) rfl (R := fun i => cL b d nm L i.1) (fun i => rfl) (fun i => h i.1 i.2)
    fun i u ρ ⟨i', h1, h2, h3⟩ => ⟨_, ⟨h2, rfl⟩, Closes.pm h3 (lg_closes i' h1)⟩
def appL (L : Lg) (r : RdM.Bs) : (Int × Int) × Lg :=
  if L.broken = true then ((0, 18), L)
  else if 65536 < r.length then ((0, 5), L)
  else if 256 ≤ L.pend.length then ((0, 6), L)
  else ((((lastN L + (L.pend.length + 1) : Nat) : Int), 0), { L with pend := L.pend ++ [r] })
theorem appL_raw (h : OkS L.first L.segs) (r : RdM.Bs) : appV (rawL L) r = ((appL L r).1, rawL (appL L r).2) ∧ (appL L r).2.first = L.first ∧ (appL L r).2.segs = L.segs := by
  have h1 := lastV_raw h
  unfold appV appL
  by_cases hb : L.broken = true
  · rw [if_pos (show (rawL L).broken = true from hb), if_pos hb]; exact ⟨rfl, rfl, rfl⟩
  · rw [if_neg (show ¬ (rawL L).broken = true from hb), if_neg hb]
    rw [if_neg hb] at h1
    by_cases h2 : 65536 < r.length
    · rw [if_pos h2, if_pos h2]; exact ⟨rfl, rfl, rfl⟩
    · rw [if_neg h2, if_neg h2]
      by_cases h3 : 256 ≤ L.pend.length
      · rw [if_pos (show 256 ≤ (rawL L).pend.length from h3), if_pos h3]; exact ⟨rfl, rfl, rfl⟩
      · rw [if_neg (show ¬ 256 ≤ (rawL L).pend.length from h3), if_neg h3, h1]; exact ⟨rfl, rfl, rfl⟩
theorem lastV_le (hL : OkL L) : lastV (rawL L) ≤ 1099511627776 := by rw [lastV_raw hL.seg]; have := hL.sz; split; (· omega); (· unfold lastN; omega)
variable (lab : Nat) (hL : OkL L)
include hL
theorem lappend_c (r : RdM.Bs) (hr : r.length ≤ 1099511627776) : FnT Try.prog σ F 14 [.pointer (some ⟨b, 0, none⟩), .string (str r)] [(lab, lgR b d nm L)] (fun u ρ => u = .tuple #[.int .i64 (appL L r).1.1, .int .i64 (appL L r).1.2] ∧ ρ = [(lab, lgR b d nm (appL L r).2)]) := by
  obtain ⟨e1, e2, e3⟩ := appL_raw hL.seg r
  refine lg_wp lab fun i hm => ?_
  refine fn_imp (fn_pm (fn_fr [(611, _), (614, _)] [(612, slW 87 encRow 4 (.slice i.2.1 (rowsOf L.first L.segs).length i.2.2.1) (rowsOf L.first L.segs)), (613, mp KZ encSV i.1 i.2.2.2.2.2)]
    (lappend_any (d := d) (m := i.1) (c := i.2.2.1) (cp := i.2.2.2.2.1) (nm := nm) (v := rawL L) (a := i.2.1) (p := i.2.2.2.1) r (lastV_le hL) hr (by have := hL.pl; show L.pend.length ≤ _; omega) (Sl.lab 612 rfl (by have := hL.rowl; show (rowsOf L.first L.segs).length ≤ _; unfold maxLen; omega)))) (pm_in _ _ _ _)) ?_
  rintro u ρ ⟨ρ0, ⟨p', cp', h1, h2⟩, rfl⟩
  refine ⟨(i.1, i.2.1, i.2.2.1, p', cp', i.2.2.2.2.2), by rw [e2, e3]; exact hm, ?_, ?_⟩
  · rw [h1, e1]
  · rw [h2, e1]
    unfold cL
    rw [e2, e3]
    exact (pm_in _ _ _ _).symm
omit hL
def discL (L : Lg) : Lg := if L.broken = true then L else { L with pend := [] }
theorem ldiscard_c : FnT Try.prog σ F 23 [.pointer (some ⟨b, 0, none⟩)] [(lab, lgR b d nm L)] (fun u ρ => u = .int .i64 (if L.broken = true then 18 else 0) ∧ ρ = [(lab, lgR b d nm (discL L))]) := by
  have e1 : discV (rawL L) = rawL (discL L) ∧ (discL L).first = L.first ∧ (discL L).segs = L.segs := by
    unfold discV discL
    by_cases hb : L.broken = true
    · rw [if_pos (show (rawL L).broken = true from hb), if_pos hb]; exact ⟨rfl, rfl, rfl⟩
    · rw [if_neg (show ¬ (rawL L).broken = true from hb), if_neg hb]; exact ⟨rfl, rfl, rfl⟩
  obtain ⟨e1, e2, e3⟩ := e1
  refine lg_wp lab fun i hm => ?_
  refine fn_imp (fn_pm (fn_fr [(611, _), (614, _)] [(612, slW 87 encRow 4 (.slice i.2.1 (rowsOf L.first L.segs).length i.2.2.1) (rowsOf L.first L.segs)), (613, mp KZ encSV i.1 i.2.2.2.2.2)]
    (discard_any (d := d) (m := i.1) (c := i.2.2.1) (cp := i.2.2.2.2.1) (nm := nm) (v := rawL L) (a := i.2.1) (p := i.2.2.2.1))) (pm_in _ _ _ _)) ?_
  rintro u ρ ⟨ρ0, ⟨p', cp', h1, h2⟩, rfl⟩
  refine ⟨(i.1, i.2.1, i.2.2.1, p', cp', i.2.2.2.2.2), by rw [e2, e3]; exact hm, h1, ?_⟩
  rw [h2, e1]
  unfold cL
  rw [e2, e3]
  exact (pm_in _ _ _ _).symm
theorem lopen_c {s : DskM.St} {first : Nat} {segs : List Sg} (lab2 : Nat) (hok : DskM.nameB nm = true ∧ nm.length ≤ 48) (hdn : s.down = false) (hgD : DskM.Good s) (hS : OkS first segs) (hH : Holds first segs (segsOf nm s.fs)) (hT : first + (allR segs).length ≤ 1099511627776) :
      FnT Try.prog σ F 16 [.pointer (some ⟨d, 0, none⟩), .string (str nm)] [(lab, dkR d s)] (fun u ρ => ∃ b, u = .tuple #[.pointer (some ⟨b, 0, none⟩), .int .i64 0] ∧ ρ = [(lab, dkR d s), (lab2, lgR b d nm ⟨first, segs, [], true, false⟩)]) :=
  fn_oc (dk_opens d s) rfl (R := fun i => [(601, cel d (cellD s i.1.1) 90), (602, mp KL DskM.encF i.1.1 i.1.2)]) (fun i => rfl) (fun i => fn_ro _ (open_ok hok hdn hgD i.2 (Ent.lab (l := 601) rfl (says_cel 0)) (Mr.lab 602 rfl) hS hH hT))
    fun i u ρ ⟨ρ0, ⟨b, m, a, c, l, hm, h1, h3⟩, h2⟩ => ⟨_, ⟨b, h1, rfl⟩, by
      rw [h2, h3]
      have h4 := lg_closes (σ := σ) (b := b) (d := d) (nm := nm) (L := ⟨first, segs, [], true, false⟩) (m, a, c, none, 0, l) hm
      exact ((h4.app (dk_closes i.2)) : Closes σ _ _) |> fun h => by
        intro F w hw
        exact (h F w hw).perm (List.Perm.swap _ _ _)⟩
end
end Go.Proofs.Ytcbigmgakdanjaa
namespace Go.Proofs.Ytcbigmgakdanjaa
open Go Go.SL Go.RowKit Go.RdM Go.WalM
set_option linter.unusedVariables false
set_option linter.unusedSimpArgs false
theorem tF76_0wr : fieldB Try.prog 76 0 0 = true := by kernel_rfl
theorem tF76_4wr : fieldB Try.prog 76 4 4 = true := by kernel_rfl
theorem tF76_5wr : fieldB Try.prog 76 5 5 = true := by kernel_rfl
theorem tMixwr : Try.prog.follows .mixedOrders = true := by kernel_rfl
theorem tO22wr : oneB Try.prog 22 = true := by kernel_rfl
theorem tO35wr : oneB Try.prog 35 = true := by kernel_rfl
theorem tS35wr : sliceB Try.prog 35 9 1 = true := by kernel_rfl
theorem tZ35wr : (Try.prog.info? 35).map (·.size) = some 1 := by kernel_rfl
theorem tZ4wr : (Try.prog.info? 4).map (·.size) = some 1 := by kernel_rfl
theorem note_rows (f : Nat) (S : List Sg) (n : Nat) (g : List RdM.Bs) : noteR (rowsOf f S) n (f + (allR S).length) g.length = rowsOf f (noteS S n g) := by
  rcases List.eq_nil_or_concat S with h | ⟨S', x, rfl⟩
  · subst h; simp [rowsOf, noteR, noteS, allR, Sg.recs]
  · rw [List.concat_eq_append]
    unfold noteR noteS
    rw [rows_last, List.getLast?_concat]
    dsimp only
    by_cases hx : x.num = n
    · rw [if_pos hx, if_pos hx, List.dropLast_concat, rowsOf_app, rowsOf_one, List.dropLast_concat, rowsOf_app, rowsOf_one, allR_app, allR_one]
      unfold Sg.recs
      rw [List.flatten_append, List.length_append, List.length_append, List.length_append, hx]
      simp [Nat.add_assoc]
    · rw [if_neg hx, if_neg hx, rowsOf_app (S' ++ [x]), rowsOf_one]
      unfold Sg.recs; simp
theorem nextV_raw (L : Lg) : nextV (rawL L) = nextN L.segs L.fresh := by
  rcases List.eq_nil_or_concat L.segs with h | ⟨S', x, h⟩
  · unfold nextV nextN rawL; dsimp only; rw [h]; rfl
  · rw [List.concat_eq_append] at h
    unfold nextV nextN rawL
    dsimp only
    rw [h, rows_last, List.getLast?_concat]
def comO (nm : RdM.Bs) (L : Lg) (s : DskM.St) : (Int × Int) × Lg × DskM.St :=
  if L.broken = true then ((0, 18), L, s)
  else if L.pend = [] then ((((lastN L : Nat) : Int), 0), L, s)
  else if (DskM.appO s (fileN nm (nextN L.segs L.fresh)) (encG (lastN L + 1) L.pend)).1 ≠ 0 then ((0, (DskM.appO s (fileN nm (nextN L.segs L.fresh)) (encG (lastN L + 1) L.pend)).1), { L with broken := decide ((DskM.appO s (fileN nm (nextN L.segs L.fresh)) (encG (lastN L + 1) L.pend)).1 = 27) }, (DskM.appO s (fileN nm (nextN L.segs L.fresh)) (encG (lastN L + 1) L.pend)).2)
  else if (DskM.synO (DskM.appO s (fileN nm (nextN L.segs L.fresh)) (encG (lastN L + 1) L.pend)).2 (fileN nm (nextN L.segs L.fresh))).1 ≠ 0 then ((0, (DskM.synO (DskM.appO s (fileN nm (nextN L.segs L.fresh)) (encG (lastN L + 1) L.pend)).2 (fileN nm (nextN L.segs L.fresh))).1), { L with broken := decide ((DskM.synO (DskM.appO s (fileN nm (nextN L.segs L.fresh)) (encG (lastN L + 1) L.pend)).2 (fileN nm (nextN L.segs L.fresh))).1 = 27) }, (DskM.synO (DskM.appO s (fileN nm (nextN L.segs L.fresh)) (encG (lastN L + 1) L.pend)).2 (fileN nm (nextN L.segs L.fresh))).2)
  else ((((lastN (commitL L) : Nat) : Int), 0), commitL L, (DskM.synO (DskM.appO s (fileN nm (nextN L.segs L.fresh)) (encG (lastN L + 1) L.pend)).2 (fileN nm (nextN L.segs L.fresh))).2)
theorem lastN_commit {L : Lg} (h : L.pend ≠ []) : commitL L = { L with segs := noteS L.segs (nextN L.segs L.fresh) L.pend, pend := [], fresh := false } := by unfold commitL; rw [if_neg h]
theorem noteS_len (S : List Sg) (n : Nat) (g : List RdM.Bs) : (noteS S n g).length ≤ S.length + 1 := by
  unfold noteS
  cases h : S.getLast? with
  | none => simp
  | some x =>
    dsimp only
    split
    · rw [List.length_append, List.length_dropLast]; simp
    · simp
theorem noteS_mem {S : List Sg} {n : Nat} {g : List RdM.Bs} {x : Sg} (h : x ∈ noteS S n g) : x ∈ S ∨ (∃ y ∈ S, y.num = n ∧ x = ⟨n, y.gs ++ [g]⟩) ∨ x = ⟨n, [g]⟩ := by
  rcases List.eq_nil_or_concat S with h0 | ⟨S', y, rfl⟩
  · subst h0
    simp [noteS] at h; exact .inr (.inr h)
  · rw [List.concat_eq_append] at h ⊢
    unfold noteS at h
    rw [List.getLast?_concat] at h
    dsimp only at h
    split at h
    · rename_i hy
      rw [List.dropLast_concat] at h
      rcases List.mem_append.1 h with h | h
      · exact .inl (List.mem_append_left _ h)
      · exact .inr (.inl ⟨y, by simp, hy, List.mem_singleton.1 h⟩)
    · rcases List.mem_append.1 h with h | h
      · exact .inl h
      · exact .inr (.inr (List.mem_singleton.1 h))
theorem nextN_le {S : List Sg} {fr : Bool} (hi : S.Pairwise (fun a b => a.num < b.num)) : ∀ x ∈ S, x.num ≤ nextN S fr ∧ (x.num = nextN S fr → S.getLast? = some x) := by
  intro x hx
  rcases List.eq_nil_or_concat S with h0 | ⟨S', y, rfl⟩
  · subst h0; simp at hx
  · rw [List.concat_eq_append] at hi hx ⊢
    unfold nextN
    rw [List.getLast?_concat]
    dsimp only
    rcases List.mem_append.1 hx with h | h
    · have h1 := (List.pairwise_append.1 hi).2.2 x h y (by simp)
      split <;> exact ⟨by omega, fun h => by omega⟩
    · rw [List.mem_singleton] at h; subst h
      split
      · exact ⟨by omega, fun h => by omega⟩
      · exact ⟨Nat.le_refl _, fun _ => rfl⟩
theorem nextN_pos {f : Nat} {S : List Sg} {fr : Bool} (h : OkS f S) : 1 ≤ nextN S fr := by
  rcases List.eq_nil_or_concat S with h0 | ⟨S', y, rfl⟩
  · subst h0; exact Nat.le_refl _
  · rw [List.concat_eq_append] at h ⊢
    have := (h.num y (by simp)).1
    unfold nextN
    rw [List.getLast?_concat]
    dsimp only
    split <;> omega
theorem oks_note {f n : Nat} {S : List Sg} {fr : Bool} {g : List RdM.Bs} (h : OkS f S) (hn : n = nextN S fr) (hg : OkG g) (hnx : n ≤ 999999) : OkS f (noteS S n g) := by
  have hle := nextN_le (fr := fr) h.inc
  rw [← hn] at hle
  have hp := nextN_pos (fr := fr) h
  rw [← hn] at hp
  refine ⟨h.pos, fun h0 => ?_, ?_, fun x hx => ?_, fun x hx => ?_⟩
  · have h2 : (allR (noteS S n g)).length = 0 := by rw [h0]; rfl
    rw [noteS_all, List.length_append] at h2
    have h1 := List.length_pos_iff.2 hg.ne
    omega
  · rcases List.eq_nil_or_concat S with h0 | ⟨S', y, rfl⟩
    · subst h0; simp [noteS]
    · rw [List.concat_eq_append] at h hle ⊢
      unfold noteS
      rw [List.getLast?_concat]
      dsimp only
      split
      · rename_i hy
        rw [List.dropLast_concat]
        have hi := List.pairwise_append.1 h.inc
        refine List.pairwise_append.2 ⟨hi.1, List.pairwise_singleton _ _, fun a ha b hb => ?_⟩
        rw [List.mem_singleton] at hb; subst hb
        show a.num < n
        rw [← hy]; exact hi.2.2 a ha y (by simp)
      · rename_i hy
        refine List.pairwise_append.2 ⟨h.inc, List.pairwise_singleton _ _, fun a ha b hb => ?_⟩
        rw [List.mem_singleton] at hb; subst hb
        show a.num < n
        have h1 := hle a ha
        rcases Nat.lt_or_ge a.num n with h2 | h2
        · exact h2
        · have h3 := h1.2 (by omega)
          rw [List.getLast?_concat] at h3
          simp at h3; subst h3; omega
  · rcases noteS_mem hx with h1 | ⟨y, h1, h2, h3⟩ | h1
    · exact h.num x h1
    · subst h3; exact ⟨hp, hnx⟩
    · subst h1; exact ⟨hp, hnx⟩
  · rcases noteS_mem hx with h1 | ⟨y, h1, h2, h3⟩ | h1
    · exact h.grp x h1
    · subst h3
      refine ⟨by simp, fun q hq => ?_⟩
      rcases List.mem_append.1 hq with hq | hq
      · exact (h.grp y h1).2 q hq
      · rw [List.mem_singleton] at hq; subst hq; exact hg
    · subst h1
      refine ⟨by simp, fun q hq => ?_⟩
      rw [List.mem_singleton] at hq; subst hq; exact hg
set_option maxHeartbeats 4000000 in
set_option maxRecDepth 100000 in
theorem commit_any {σ : World} {F : List Res} {b d m c cp : Nat} {nm : RdM.Bs} {L : Lg} {a p : Option Addr} {l : List (Int × List UInt8)} {s : DskM.St} (hL : OkL L) (hg : DskM.Good s) (hnm : nm.length ≤ 48) (hnx : nextN L.segs L.fresh ≤ 999999) (hm : IsMap l L.first (allR L.segs)) :
    FnT Try.prog σ F 15 [.pointer (some ⟨b, 0, none⟩)] [(601, dkR d s), (611, cel b (cellL d nm (rawL L) m a c p cp) 76), (612, slW 87 encRow 4 (.slice a (rowsOf L.first L.segs).length c) (rowsOf L.first L.segs)), (613, mp KZ encSV m l), (614, slW 9 encT 1 (.slice p L.pend.length cp) L.pend)]
      (fun u ρ => ∃ i : LgT, IsMap i.2.2.2.2.2 (comO nm L s).2.1.first (allR (comO nm L s).2.1.segs) ∧ u = .tuple #[.int .i64 (comO nm L s).1.1, .int .i64 (comO nm L s).1.2] ∧ ρ = (601, dkR d (comO nm L s).2.2) :: cL b d nm (comO nm L s).2.1 i) := by
  refine fn_of 77 Try.func15 rfl Try.ntmps15 rfl ?_
  have hseg := hL.seg
  have hpl := hL.pl
  have hsz := hL.sz
  have hrl := hL.rowl
  have hpos := hseg.pos
  have hlv := lastV_raw hseg
  have hnv := nextV_raw L
  refine w_seq (w_region (za rfl (za rfl (wl_nil (st_tn (w_seq (w_seq (w_region (zm rfl (zd rfl (op_fn Try.func42 rfl rfl rfl (lready_any (v := rawL L) (celLg 611 rfl))) (za rfl (wl_nil (st_tn ?_)))))))))))))
  refine w_seq (w_region (zm rfl (zd rfl (op_neq rfl rfl) (wl_nil (st_tn (w_cond_d rfl (fun hc12 => ?_) (fun hc12 => ?_)))))))
  · -- c12.t
    refine w_seq (w_region (zm rfl (za rfl (za rfl (wl_nil (st_tn (w_ret (st_tr (st_ret (vs := [_, _]) [601, 611, 612, 613, 614] Try.results15 ⟨rfl, ⟨rfl, trivial⟩⟩ rfl ?_)))))))))
    refine ⟨[(601, _), (611, _), (612, _), (613, _), (614, _)], rfl, ?_⟩
    have hb : L.broken = true := ready_t hc12
    have h1 : comO nm L s = ((0, 18), L, s) := by unfold comO; rw [if_pos hb]
    have h2 : readyL (rawL L) = 18 := by unfold readyL; rw [if_pos (show (rawL L).broken = true from hb)]
    rw [h1, h2]; exact ⟨(m, a, c, p, cp, l), hm, rfl, rfl⟩
  · -- c12.f
    have hb : L.broken = false := ready_f hc12
    have hbf : ¬ L.broken = true := by simp [hb]
    rw [if_neg hbf] at hlv
    refine w_skip (st_tn (w_seq (w_seq (w_region (zm rfl (zd rfl (op_nilCheck rfl) (zd rfl (op_fieldAddr (off := 4) rfl tF76_4wr) (zd rfl (op_load1 rfl tO35wr (Ent.lab (l := 611) rfl (says_cel 4))) (zd rfl (op_lenT rfl tS35wr (Sl.ent (Sl.lab 614 rfl (by first | (unfold maxLen; omega) | (show (rowsOf L.first L.segs).length ≤ _; unfold maxLen; omega))))) ?_)))))))))
    refine zd rfl (op_eql rfl rfl) (wl_nil (st_tn (w_cond_d rfl (fun hc19 => ?_) (fun hc19 => ?_))))
    · -- c19.t
      refine w_seq (w_region (zm rfl (zd rfl (op_fn Try.func17 rfl rfl rfl (last_any (v := rawL L) (celLg 611 rfl) (Sl.lab 612 rfl (by show (rowsOf L.first L.segs).length ≤ _; unfold maxLen; omega)))) ?_)))
      refine za rfl (za rfl (wl_nil (st_tn (w_ret (st_tr (st_ret (vs := [_, _]) [601, 611, 612, 613, 614] Try.results15 ⟨rfl, ⟨rfl, trivial⟩⟩ rfl ?_))))))
      refine ⟨[(601, _), (611, _), (612, _), (613, _), (614, _)], rfl, ?_⟩
      have hp0 : L.pend = [] := List.eq_nil_of_length_eq_zero (by omega)
      have h1 : comO nm L s = ((((lastN L : Nat) : Int), 0), L, s) := by unfold comO; rw [if_neg hbf, if_pos hp0]
      rw [h1, hlv]; exact ⟨(m, a, c, p, cp, l), hm, rfl, rfl⟩
    · -- c19.f
      have hp0 : L.pend ≠ [] := fun h => by rw [h] at hc19; exact hc19 rfl
      have hpg : OkG L.pend := ⟨hp0, hpl, hL.pc⟩
      obtain ⟨f, hf⟩ : ∃ f, f = lastN L + 1 := ⟨_, rfl⟩
      have hf2 : f = L.first + (allR L.segs).length := by rw [hf]; unfold lastN; omega
      obtain ⟨n, hn⟩ : ∃ n, n = nextN L.segs L.fresh := ⟨_, rfl⟩
      rw [← hn] at hnx hnv
      obtain ⟨A, hA⟩ : ∃ A, A = DskM.appO s (fileN nm n) (encG f L.pend) := ⟨_, rfl⟩
      obtain ⟨B, hB⟩ : ∃ B, B = DskM.synO A.2 (fileN nm n) := ⟨_, rfl⟩
      have hgA : DskM.Good A.2 := by rw [hA]; exact hg.app _ _
      have hel := encG_le (f := f) hpg (by omega)
      have hcom : comO nm L s = if A.1 ≠ 0 then ((0, A.1), { L with broken := decide (A.1 = 27) }, A.2) else if B.1 ≠ 0 then ((0, B.1), { L with broken := decide (B.1 = 27) }, B.2) else ((((lastN (commitL L) : Nat) : Int), 0), commitL L, B.2) := by
        unfold comO; rw [if_neg hbf, if_neg hp0, ← hn, ← hf, ← hA, ← hB]
      refine w_skip (st_tn (w_seq (w_region (zm rfl (zd rfl (op_val (v' := .int .i64 (n : Int)) (by rw [hnv]) (op_fn Try.func43 rfl rfl rfl (next_any (v := rawL L) (celLg 611 rfl) (Sl.lab 612 rfl (by show (rowsOf L.first L.segs).length ≤ _; unfold maxLen; omega)) (fun r hr => (hL.rown r hr).1)))) ?_)))))
      refine zm rfl (zd rfl (op_val (v' := .int .i64 (lastN L : Int)) (by rw [hlv]) (op_fn Try.func17 rfl rfl rfl (last_any (v := rawL L) (celLg 611 rfl) (Sl.lab 612 rfl (by show (rowsOf L.first L.segs).length ≤ _; unfold maxLen; omega))))) ?_)
      refine zd rfl (op_val (v' := .int .i64 (f : Int)) (by rw [hf]; rfl) (op_add' rfl rfl (by omega))) ?_
      refine za rfl (za rfl (wl_nil (st_tn (w_seq (w_seq (w_region (zm rfl (zd rfl (op_val (v' := .bool false) (by rw [decide_eq_false (by omega)]) (op_gtr rfl rfl)) ?_))))))))
      refine wl_nil (st_tn (w_cond_f (rfl) ?_))
      refine w_skip (st_tn (w_seq (w_seq ?_)))
      refine w_draw (D := [⟨29, [], [], [], _, false, [], []⟩, ⟨30, [0], [], [], _, false, [], []⟩, ⟨31, [1], [], [], _, false, [], []⟩, ⟨32, [2], [], [], _, false, [], []⟩, ⟨33, [], [], [], _, false, [], []⟩, ⟨34, [], [], [], _, false, [], []⟩, ⟨35, [4, 5], [], [], _, false, [], []⟩, ⟨36, [], [], [], _, false, [], []⟩, ⟨37, [], [], [], _, false, [], []⟩, ⟨38, [8], [], [], _, false, [], []⟩, ⟨39, [9], [], [], _, false, [], []⟩, ⟨40, [10], [], [], _, false, [], []⟩, ⟨41, [7, 11], [], [], _, false, [], []⟩]) [] [0, 5, 6] [⟨29, [], [], false, [], []⟩, ⟨30, [0], [], false, [], []⟩, ⟨31, [1], [], false, [], []⟩, ⟨32, [2], [], false, [], []⟩, ⟨33, [], [], false, [], []⟩, ⟨34, [], [], false, [], []⟩, ⟨35, [4, 5], [], false, [], []⟩, ⟨36, [], [], false, [], []⟩, ⟨37, [], [], false, [], []⟩, ⟨38, [8], [], false, [], []⟩, ⟨39, [9], [], false, [], []⟩, ⟨40, [10], [], false, [], []⟩, ⟨41, [7, 11], [], false, [], []⟩] tMixwr (by rfl) (by kernel_rfl) (by rfl) (by rfl)
          ⟨.plain rfl (by intro X; exact op_move rfl),
          ⟨.plain rfl (by intro X; rintro _ _ ⟨rfl, rfl⟩; exact op_nilCheck rfl),
          ⟨.plain rfl (by intro X; rintro _ _ ⟨rfl, rfl⟩; exact op_fieldAddr (off := 0) rfl tF76_0wr),
          ⟨.plain rfl (by intro X; rintro _ _ ⟨rfl, rfl⟩; exact op_load1 rfl tO22wr (Ent.lab (l := 611) rfl (says_cel 0))),
          ⟨.plain rfl (by intro X; exact op_move rfl),
          ⟨.plain rfl (by intro X; exact op_move rfl),
          ⟨.plain rfl (by intro X; rintro _ _ ⟨rfl, rfl⟩ _ _ ⟨rfl, rfl⟩; exact op_fn Try.func45 rfl rfl rfl (file_any n hnx (by omega) (celLg (v := rawL L) 611 rfl))),
          ⟨.plain rfl (by intro X; exact op_move rfl),
          ⟨.plain rfl (by intro X; exact op_move rfl),
          ⟨.plain rfl (by intro X; rintro _ _ ⟨rfl, rfl⟩; exact op_nilCheck rfl),
          ⟨.plain rfl (by intro X; rintro _ _ ⟨rfl, rfl⟩; exact op_fieldAddr (off := 4) rfl tF76_4wr),
          ⟨.plain rfl (by intro X; rintro _ _ ⟨rfl, rfl⟩; exact op_load1 rfl tO35wr (Ent.lab (l := 611) rfl (says_cel 4))),
          ⟨.plain rfl (by intro X; rintro _ _ ⟨rfl, rfl⟩ _ _ ⟨rfl, rfl⟩; exact op_fn Try.func46 rfl rfl rfl (encode_any f L.pend (Sl.lab 614 rfl (by unfold maxLen; omega)) hpg (by omega))),
          trivial⟩⟩⟩⟩⟩⟩⟩⟩⟩⟩⟩⟩⟩ ?_
      rintro _ _ ⟨rfl, rfl⟩ _ _ ⟨rfl, rfl⟩ _ _ ⟨rfl, rfl⟩ _ _ ⟨rfl, rfl⟩ _ _ ⟨rfl, rfl⟩ _ _ ⟨rfl, rfl⟩ _ _ ⟨rfl, rfl⟩ _ _ ⟨rfl, rfl⟩ _ _ ⟨rfl, rfl⟩ _ _ ⟨rfl, rfl⟩ _ _ ⟨rfl, rfl⟩ _ _ ⟨rfl, rfl⟩ _ _ ⟨rfl, rfl⟩
      refine wl_norm (e' := [(0, _), (5, _), (6, _), (32, _), (35, _), (41, _)]) (.cons rfl (.cons rfl (.cons rfl (.cons rfl (.cons rfl (.cons rfl (.nil _))))))) (by dsimp only [cond_false, cond_true, List.nil_append, List.cons_append]) ?_
      refine wl_op [601] rfl rfl rfl rfl (op_fn Try.func44 rfl rfl rfl (dapp_c 601 (fileN nm n) (encG f L.pend) hg (by rw [len_fileN]; unfold maxLen; omega) (by omega))) ?_
      rintro _ _ ⟨rfl, rfl⟩
      refine za rfl (wl_nil (st_tn (w_seq ?_)))
      rw [← hA]
      refine w_region (zm rfl (zd rfl (op_neq rfl rfl) (wl_nil (st_tn (w_cond_d rfl (fun hc44 => ?_) (fun hc44 => ?_))))))
      · -- c44.t
        refine w_seq (w_region (zm rfl (zm rfl (wl_op [611] rfl rfl rfl rfl (op_fn Try.func47 rfl rfl rfl (lfail_any (v := rawL L) A.1)) ?_))))
        rintro _ _ ⟨rfl, rfl⟩
        refine za rfl (za rfl (wl_nil (st_tn (w_ret (st_tr (st_ret (vs := [_, _]) [601, 611, 612, 613, 614] Try.results15 ⟨rfl, ⟨rfl, trivial⟩⟩ rfl ?_))))))
        refine ⟨[(601, _), (611, _), (612, _), (613, _), (614, _)], rfl, ?_⟩
        rw [hcom, if_pos hc44]
        exact ⟨(m, a, c, p, cp, l), hm, rfl, rfl⟩
      · -- c44.f
        refine w_skip (st_tn (w_seq (w_seq ?_)))
        refine w_draw (D := [⟨48, [], [], [], _, false, [], []⟩, ⟨49, [0], [], [], _, false, [], []⟩, ⟨50, [1], [], [], _, false, [], []⟩, ⟨51, [2], [], [], _, false, [], []⟩, ⟨52, [], [], [], _, false, [], []⟩, ⟨53, [], [], [], _, false, [], []⟩, ⟨54, [4, 5], [], [], _, false, [], []⟩]) [] [0, 5] [⟨48, [], [], false, [], []⟩, ⟨49, [0], [], false, [], []⟩, ⟨50, [1], [], false, [], []⟩, ⟨51, [2], [], false, [], []⟩, ⟨52, [], [], false, [], []⟩, ⟨53, [], [], false, [], []⟩, ⟨54, [4, 5], [], false, [], []⟩] tMixwr (by rfl) (by kernel_rfl) (by rfl) (by rfl)
            ⟨.plain rfl (by intro X; exact op_move rfl),
            ⟨.plain rfl (by intro X; rintro _ _ ⟨rfl, rfl⟩; exact op_nilCheck rfl),
            ⟨.plain rfl (by intro X; rintro _ _ ⟨rfl, rfl⟩; exact op_fieldAddr (off := 0) rfl tF76_0wr),
            ⟨.plain rfl (by intro X; rintro _ _ ⟨rfl, rfl⟩; exact op_load1 rfl tO22wr (Ent.lab (l := 611) rfl (says_cel 0))),
            ⟨.plain rfl (by intro X; exact op_move rfl),
            ⟨.plain rfl (by intro X; exact op_move rfl),
            ⟨.plain rfl (by intro X; rintro _ _ ⟨rfl, rfl⟩ _ _ ⟨rfl, rfl⟩; exact op_fn Try.func45 rfl rfl rfl (file_any n hnx (by omega) (celLg (v := rawL L) 611 rfl))),
            trivial⟩⟩⟩⟩⟩⟩⟩ ?_
        rintro _ _ ⟨rfl, rfl⟩ _ _ ⟨rfl, rfl⟩ _ _ ⟨rfl, rfl⟩ _ _ ⟨rfl, rfl⟩ _ _ ⟨rfl, rfl⟩ _ _ ⟨rfl, rfl⟩ _ _ ⟨rfl, rfl⟩
        refine wl_norm (e' := [(0, _), (5, _), (6, _), (51, _), (54, _)]) (.cons rfl (.cons rfl (.cons rfl (.cons rfl (.cons rfl (.nil _)))))) (by dsimp only [cond_false, cond_true, List.nil_append, List.cons_append]) ?_
        refine wl_op [601] rfl rfl rfl rfl (op_fn Try.func48 rfl rfl rfl (dsyn_c 601 (fileN nm n) hgA (by rw [len_fileN]; unfold maxLen; omega))) ?_
        rintro _ _ ⟨rfl, rfl⟩
        refine za rfl (wl_nil (st_tn (w_seq ?_)))
        rw [← hB]
        refine w_region (zm rfl (zd rfl (op_neq rfl rfl) (wl_nil (st_tn (w_cond_d rfl (fun hc57 => ?_) (fun hc57 => ?_))))))
        · -- c57.t
          refine w_seq (w_region (zm rfl (zm rfl (wl_op [611] rfl rfl rfl rfl (op_fn Try.func47 rfl rfl rfl (lfail_any (v := rawL L) B.1)) ?_))))
          rintro _ _ ⟨rfl, rfl⟩
          refine za rfl (za rfl (wl_nil (st_tn (w_ret (st_tr (st_ret (vs := [_, _]) [601, 611, 612, 613, 614] Try.results15 ⟨rfl, ⟨rfl, trivial⟩⟩ rfl ?_))))))
          refine ⟨[(601, _), (611, _), (612, _), (613, _), (614, _)], rfl, ?_⟩
          rw [hcom, if_neg hc44, if_pos hc57]
          exact ⟨(m, a, c, p, cp, l), hm, rfl, rfl⟩
        · -- c57.f
          refine w_skip (st_tn (w_seq (w_region (zm rfl (zm rfl (zm rfl (zm rfl (zd rfl (op_nilCheck rfl) (zd rfl (op_fieldAddr (off := 4) rfl tF76_4wr) (zd rfl (op_load1 rfl tO35wr (Ent.lab (l := 611) rfl (says_cel 4))) (wl_op [611, 612, 613] rfl rfl rfl rfl (op_fn Try.func49 rfl rfl rfl (note_any (F0 := L.first) (v := rawL L) (all := allR L.segs) (g := L.pend) n f (Sl.lab 614 rfl (by unfold maxLen; omega)) ⟨List.length_pos_iff.2 hp0, by omega⟩ hnx (by omega) hm hf2 (by show (rowsOf L.first L.segs).length ≤ _; omega) (fun r hr => by have := (hL.rown r hr).2; omega))) ?_)))))))))))
          rintro _ _ ⟨a68, c68, l68, hl68, rfl, rfl⟩
          refine wl_nil (st_tn (w_seq (w_region (zm rfl (zm rfl (zd rfl (op_nilCheck rfl) (zd rfl (op_fieldAddr (off := 4) rfl tF76_4wr) (wl_op0 [611] rfl rfl rfl (op_store rfl rfl tZ35wr (by rfl) (by rfl) (by exact Nat.le_of_ble_eq_true rfl)) ?_))))))))
          rintro _ _ ⟨rfl, rfl⟩
          refine zd rfl (op_nilCheck rfl) (zd rfl (op_fieldAddr (off := 5) rfl tF76_5wr) (wl_op0 [611] rfl rfl rfl (op_store rfl rfl tZ4wr (by rfl) (by rfl) (by exact Nat.le_of_ble_eq_true rfl)) ?_))
          rintro _ _ ⟨rfl, rfl⟩
          refine wl_nil (st_tn (w_seq (w_emp 615 (slO_nil 9 1) ?_)))
          have hnr : noteR (rowsOf L.first L.segs) n f L.pend.length = rowsOf L.first (noteS L.segs n L.pend) := by rw [hf2]; exact note_rows _ _ _ _
          have hna := noteS_all L.segs n L.pend
          refine w_region (zm rfl (zd rfl (op_fn Try.func17 rfl rfl rfl (last_any (v := ⟨noteR (rowsOf L.first L.segs) n f L.pend.length, [], false, L.broken⟩) (p := none) (cp := 0) (celLg 611 rfl) (Sl.lab 612 rfl (by show (noteR (rowsOf L.first L.segs) n f L.pend.length).length ≤ _; rw [hnr, rowsOf_len]; have := noteS_len L.segs n L.pend; rw [rowsOf_len] at hrl; unfold maxLen; omega)))) ?_))
          refine za rfl (za rfl (wl_nil (st_tn (w_ret (st_ret (vs := [_, _]) [601, 611, 612, 613, 615] Try.results15 ⟨rfl, ⟨rfl, trivial⟩⟩ rfl ?_)))))
          refine ⟨[(601, _), (611, _), (612, _), (613, _), (614, _)], rfl, ?_⟩
          have hcl : commitL L = { L with segs := noteS L.segs n L.pend, pend := [], fresh := false } := by rw [lastN_commit hp0, ← hn]
          have hls : lastV ⟨noteR (rowsOf L.first L.segs) n f L.pend.length, [], false, L.broken⟩ = lastN (commitL L) := by
            have h1 := lastV_raw (L := commitL L) (by rw [hcl]; exact oks_note hseg hn hpg hnx)
            rw [hcl] at h1 ⊢
            rw [if_neg hbf] at h1
            rw [← h1, hnr]; rfl
          rw [hcom, if_neg hc44, if_neg hc57, hls, hcl]
          refine ⟨(m, a68, c68, none, 0, l68), by rw [hna]; exact hl68, rfl, ?_⟩
          unfold cL rawL
          dsimp only
          rw [← hnr]; rfl
end Go.Proofs.Ytcbigmgakdanjaa
namespace Go.Proofs.Ytcbigmgakdanjaa
open Go Go.SL Go.RowKit Go.RdM Go.WalM
set_option linter.unusedVariables false
set_option linter.unusedSimpArgs false
theorem opens_id {σ : World} (A : List Res) : Opens σ A Unit (fun _ => A) := fun F w h => ⟨(), h⟩
theorem commit_c {σ : World} {F : List Res} {b d : Nat} {nm : RdM.Bs} {L : Lg} {s : DskM.St} (lab1 lab2 : Nat) (hL : OkL L) (hg : DskM.Good s) (hnm : nm.length ≤ 48) (hnx : nextN L.segs L.fresh ≤ 999999) :
    FnT Try.prog σ F 15 [.pointer (some ⟨b, 0, none⟩)] [(lab1, dkR d s), (lab2, lgR b d nm L)] (fun u ρ => u = .tuple #[.int .i64 (comO nm L s).1.1, .int .i64 (comO nm L s).1.2] ∧ ρ = [(lab1, dkR d (comO nm L s).2.2), (lab2, lgR b d nm (comO nm L s).2.1)]) :=
  fn_oc ((opens_id [dkR d s]).app (lg_opens b d nm L)) rfl (R := fun i => (601, dkR d s) :: cL b d nm L i.2.1) (fun i => rfl) (fun i => commit_any hL hg hnm hnx i.2.2)
    fun i u ρ ⟨j, h1, h2, h3⟩ => ⟨[(lab1, dkR d (comO nm L s).2.2), (lab2, lgR b d nm (comO nm L s).2.1)], ⟨h2, rfl⟩, by rw [h3]; exact Closes.app (Closes.refl [dkR d (comO nm L s).2.2]) (lg_closes j h1)⟩
theorem inR_file {nm : RdM.Bs} (h : DskM.nameB nm = true ∧ nm.length ≤ 48) (n : Nat) : DskM.nameB (fileN nm n) = true := by
  obtain ⟨h1, h2⟩ := h
  rw [nameB_iff] at h1 ⊢
  obtain ⟨h3, h4, h5⟩ := of_decide_eq_true h1
  refine decide_eq_true ⟨fun e => ?_, by rw [len_fileN]; omega, fun b hb => ?_⟩
  · have := congrArg List.length e
    rw [len_fileN] at this; simp at this
  · unfold fileN at hb
    rcases List.mem_append.1 hb with hb | hb
    · rcases List.mem_append.1 hb with hb | hb
      · exact h5 b hb
      · rw [List.mem_singleton] at hb; subst hb; decide
    · have := isD_dig 6 n b hb; omega
def oldD (s : DskM.St) (n : RdM.Bs) : RdM.Bs := ((DskM.find s.fs n).getD DskM.zeroF).data
def addD (s : DskM.St) (n x : RdM.Bs) : DskM.St := { s with fs := DskM.setS s.fs n ⟨oldD s n ++ x, (oldD s n ++ x).length, true⟩ }
theorem ready_ok {s : DskM.St} (hd : s.down = false) {n : RdM.Bs} (hn : DskM.nameB n = true) : ¬ DskM.readyE s [n] ≠ 0 := by
  unfold DskM.readyE; rw [if_neg (by simp [hd]), if_pos (by simp [hn])]; simp
theorem oper_q {s : DskM.St} (hl : s.lim = false) : DskM.oper s = (true, s) := by unfold DskM.oper; rw [if_neg (by simp [hl])]
theorem set_two {k : RdM.Bs} {f g : DskM.Fl} {fs : DskM.Files} (hi : DskM.Inc fs) : DskM.setS (DskM.setS fs k g) k f = DskM.setS fs k f :=
  DskM.Inc.ext hi.set.set hi.set fun k' => by
    rw [DskM.find_set hi.set, DskM.find_set hi, DskM.find_set hi]; split <;> rfl
theorem app_q {s : DskM.St} (hd : s.down = false) (hl : s.lim = false) {n x : RdM.Bs} (hn : DskM.nameB n = true) (hc : s.fs.length < 256) (hu : (DskM.used s.fs + x.length : Int) ≤ s.cap) : DskM.appO s n x = (0, DskM.grown s n x) := by
  rw [app_done (ready_ok hd hn) (fun h => by have := h.2; omega) (by omega)]
  have : DskM.oper (DskM.grown s n x) = (true, DskM.grown s n x) := oper_q hl
  rw [this]; rfl
theorem syn_q {s : DskM.St} (hi : DskM.Inc s.fs) (hd : s.down = false) (hl : s.lim = false) {n x : RdM.Bs} (hn : DskM.nameB n = true) : DskM.synO (DskM.grown s n x) n = (0, addD s n x) := by
  have hf : DskM.find (DskM.grown s n x).fs n = some { (DskM.find s.fs n).getD DskM.zeroF with data := oldD s n ++ x } := by
    show DskM.find (DskM.setS s.fs n _) n = _
    rw [DskM.find_set hi, if_pos rfl]; rfl
  have ho : DskM.oper (DskM.grown s n x) = (true, DskM.grown s n x) := oper_q hl
  rw [syn_done (ready_ok (s := DskM.grown s n x) hd hn) hf (by rw [ho]), ho]
  unfold DskM.grown addD
  dsimp only
  rw [set_two hi]
theorem com_q {nm : RdM.Bs} {L : Lg} {s : DskM.St} (hnm : DskM.nameB nm = true ∧ nm.length ≤ 48) (hg : DskM.Good s) (hd : s.down = false) (hl : s.lim = false) (hb : L.broken = false) (hp : L.pend ≠ []) (hc : s.fs.length < 256) (hu : (DskM.used s.fs + (encG (lastN L + 1) L.pend).length : Int) ≤ s.cap) :
    comO nm L s = ((((lastN (commitL L) : Nat) : Int), 0), commitL L, addD s (fileN nm (nextN L.segs L.fresh)) (encG (lastN L + 1) L.pend)) := by
  have hn := inR_file hnm (nextN L.segs L.fresh)
  unfold comO
  rw [if_neg (by simp [hb]), if_neg hp, app_q hd hl hn hc hu]
  dsimp only
  rw [syn_q hg.inc hd hl hn, if_neg (by simp), if_neg (by simp)]
theorem com_none {nm : RdM.Bs} {L : Lg} {s : DskM.St} (hb : L.broken = false) (hp : L.pend = []) : comO nm L s = ((((lastN L : Nat) : Int), 0), L, s) := by
  unfold comO; rw [if_neg (by simp [hb]), if_pos hp]
structure OnD (nm : RdM.Bs) (L : Lg) (s : DskM.St) : Prop where
  holds : Holds L.first L.segs (segsOf nm s.fs)
  tail : L.fresh = false → ∀ S x, L.segs = S ++ [x] → ∃ Q q, segsOf nm s.fs = Q ++ [q] ∧ q.2.data = encGs (L.first + (allR S).length) x.gs
theorem holds_snoc : ∀ {f : Nat} {S : List Sg} {Q : List (Nat × DskM.Fl)} {x : Sg} {q : Nat × DskM.Fl}, Holds f S Q → q.1 = x.num → (∃ t, Torn (f + (allR S).length + x.recs.length) t ∧ q.2.data = encGs (f + (allR S).length) x.gs ++ t) → Holds f (S ++ [x]) (Q ++ [q])
  | f, [], [], x, q, _, h1, h2 => ⟨h1, by simpa [allR] using h2, trivial⟩
  | f, y :: S, p :: Q, x, q, h, h1, h2 => ⟨h.1, h.2.1, holds_snoc h.2.2 h1 (by rw [allR_cons, List.length_append, ← Nat.add_assoc] at h2; exact h2)⟩
  | _, [], _ :: _, _, _, h, _, _ => h.elim
  | _, _ :: _, [], _, _, h, _, _ => h.elim
theorem holds_split : ∀ {f : Nat} {S : List Sg} {Q : List (Nat × DskM.Fl)} {x : Sg}, Holds f (S ++ [x]) Q → ∃ Q' q, Q = Q' ++ [q] ∧ Holds f S Q' ∧ q.1 = x.num
  | f, [], [q], x, h => ⟨[], q, rfl, trivial, h.1⟩
  | f, [], [], x, h => h.elim
  | f, [], _ :: _ :: _, x, h => h.2.2.elim
  | f, y :: S, p :: Q, x, h => by
    obtain ⟨Q', q, h1, h2, h3⟩ := holds_split h.2.2
    exact ⟨p :: Q', q, by rw [h1]; rfl, ⟨h.1, h.2.1, h2⟩, h3⟩
  | f, y :: S, [], x, h => h.elim
theorem holds_num : ∀ {f : Nat} {S : List Sg} {Q : List (Nat × DskM.Fl)}, Holds f S Q → ∀ q ∈ Q, ∃ x ∈ S, q.1 = x.num
  | f, [], [], h, q, hq => by simp at hq
  | f, y :: S, p :: Q, h, q, hq => by
    rcases List.mem_cons.1 hq with rfl | hq
    · exact ⟨y, by simp, h.1⟩
    · obtain ⟨x, h1, h2⟩ := holds_num h.2.2 q hq
      exact ⟨x, by simp [h1], h2⟩
  | _, [], _ :: _, h, _, _ => h.elim
  | _, _ :: _, [], h, _, _ => h.elim
theorem onD_commit {nm : RdM.Bs} {L : Lg} {s : DskM.St} (hL : OkL L) (hO : OnD nm L s) (hi : DskM.Inc s.fs) (hp : L.pend ≠ []) (hnx : nextN L.segs L.fresh ≤ 999999) : OnD nm (commitL L) (addD s (fileN nm (nextN L.segs L.fresh)) (encG (lastN L + 1) L.pend)) := by
  obtain ⟨n, hn⟩ : ∃ n, n = nextN L.segs L.fresh := ⟨_, rfl⟩
  have hn1 := nextN_pos (fr := L.fresh) hL.seg
  have hle := nextN_le (fr := L.fresh) hL.seg.inc
  have hpos := hL.seg.pos
  have hf2 : lastN L + 1 = L.first + (allR L.segs).length := by unfold lastN; omega
  rw [← hn] at hnx hn1 hle ⊢
  have hqle : ∀ q ∈ segsOf nm s.fs, q.1 ≤ n := fun q hq => by
    obtain ⟨x, h1, h2⟩ := holds_num hO.holds q hq
    rw [h2]; exact (hle x h1).1
  have hset := segs_set (nm := nm) (n := n) (f := ⟨oldD s (fileN nm n) ++ encG (lastN L + 1) L.pend, (oldD s (fileN nm n) ++ encG (lastN L + 1) L.pend).length, true⟩) ⟨hn1, hnx⟩ hi hqle
  rw [lastN_commit hp, ← hn]
  by_cases hlast : ∃ S x, L.segs = S ++ [x] ∧ x.num = n
  · obtain ⟨S, x, hS, hx⟩ := hlast
    have hfr : L.fresh = false := by
      cases hfr : L.fresh with
      | false => rfl
      | true =>
        rw [hfr, hS] at hn
        unfold nextN at hn
        rw [List.getLast?_concat] at hn
        simp at hn; omega
    obtain ⟨Q, q, hQ, hqd⟩ := hO.tail hfr S x hS
    have hh := hO.holds
    rw [hS] at hh
    obtain ⟨Q', q', h1, h2, h3⟩ := holds_split hh
    rw [hQ] at h1
    obtain ⟨e1, e2⟩ := List.append_inj' h1 rfl
    subst e1
    have e3 : q = q' := by simpa using e2
    subst e3
    have hnoteq : noteS L.segs n L.pend = S ++ [⟨n, x.gs ++ [L.pend]⟩] := by rw [hS, ← hx]; exact noteS_old (S := S) (n := x.num) (gs := x.gs)
    have hmem : (n, q.2) ∈ segsOf nm s.fs := by rw [hQ]; rw [← hx, ← h3]; simp
    have hold : oldD s (fileN nm n) = q.2.data := by unfold oldD; rw [find_seg hi hmem]; rfl
    have hfil : (segsOf nm s.fs).filter (fun q => decide (q.1 ≠ n)) = Q := by
      rw [hQ, List.filter_append]
      have e1 : Q.filter (fun q => decide (q.1 ≠ n)) = Q := by
        rw [List.filter_eq_self]
        intro y hy
        obtain ⟨z, hz1, hz2⟩ := holds_num h2 y hy
        have := (List.pairwise_append.1 (hS ▸ hL.seg.inc)).2.2 z hz1 x (by simp)
        exact decide_eq_true (by omega)
      rw [e1, List.filter_cons, if_neg (by simp [h3, hx])]; simp
    have hdata : oldD s (fileN nm n) ++ encG (lastN L + 1) L.pend = encGs (L.first + (allR S).length) (x.gs ++ [L.pend]) := by
      rw [hold, hqd, encGs_app, encGs_one, hf2, hS, allR_app, allR_one, List.length_append, ← Nat.add_assoc]; rfl
    rw [hfil, hdata] at hset
    constructor
    · show Holds L.first (noteS L.segs n L.pend) (segsOf nm (addD s (fileN nm n) _).fs)
      unfold addD
      dsimp only
      rw [hdata, hset, hnoteq]
      exact holds_snoc h2 rfl ⟨[], .inl rfl, by simp⟩
    · intro _ S1 x1 hS1
      change noteS L.segs n L.pend = S1 ++ [x1] at hS1
      rw [hnoteq] at hS1
      obtain ⟨e1, e2⟩ := List.append_inj' hS1 rfl
      have e3 : (⟨n, x.gs ++ [L.pend]⟩ : Sg) = x1 := by simpa using e2
      subst e1; subst e3
      refine ⟨Q, (n, ⟨encGs (L.first + (allR S).length) (x.gs ++ [L.pend]), (encGs (L.first + (allR S).length) (x.gs ++ [L.pend])).length, true⟩), ?_, ?_⟩
      · show segsOf nm (DskM.setS s.fs (fileN nm n) _) = _
        rw [hdata]; exact hset
      · rfl
  · have hnew : ∀ y, L.segs.getLast? = some y → y.num ≠ n := fun y hy hyn => by
      obtain ⟨S, hS⟩ := List.getLast?_eq_some_iff.1 hy
      exact hlast ⟨S, y, hS, hyn⟩
    have hnoteq := noteS_new (g := L.pend) hnew
    have hne : ∀ q ∈ segsOf nm s.fs, q.1 ≠ n := fun q hq hqn => by
      obtain ⟨x, h1, h2⟩ := holds_num hO.holds q hq
      exact hnew x ((hle x h1).2 (by omega)) (by omega)
    have hold : oldD s (fileN nm n) = [] := by unfold oldD; rw [WalM.find_none hi ⟨hn1, hnx⟩ hne]; rfl
    have hfil : (segsOf nm s.fs).filter (fun q => decide (q.1 ≠ n)) = segsOf nm s.fs := by
      rw [List.filter_eq_self]; intro y hy; exact decide_eq_true (hne y hy)
    have hdata : oldD s (fileN nm n) ++ encG (lastN L + 1) L.pend = encGs (L.first + (allR L.segs).length) [L.pend] := by rw [hold, encGs_one, hf2]; rfl
    rw [hfil, hdata] at hset
    constructor
    · show Holds L.first (noteS L.segs n L.pend) (segsOf nm (addD s (fileN nm n) _).fs)
      unfold addD
      dsimp only
      rw [hdata, hset, hnoteq]
      exact holds_snoc hO.holds rfl ⟨[], .inl rfl, by simp⟩
    · intro _ S1 x1 hS1
      change noteS L.segs n L.pend = S1 ++ [x1] at hS1
      rw [hnoteq] at hS1
      obtain ⟨e1, e2⟩ := List.append_inj' hS1 rfl
      have e3 : (⟨n, [L.pend]⟩ : Sg) = x1 := by simpa using e2
      subst e1; subst e3
      refine ⟨segsOf nm s.fs, (n, ⟨encGs (L.first + (allR L.segs).length) [L.pend], (encGs (L.first + (allR L.segs).length) [L.pend]).length, true⟩), ?_, ?_⟩
      · show segsOf nm (DskM.setS s.fs (fileN nm n) _) = _
        rw [hdata]; exact hset
      · rfl
end Go.Proofs.Ytcbigmgakdanjaa
namespace Go.Proofs.Ytcbigmgakdanjaa
open Go Go.SL Go.RowKit Go.RdM Go.WalM
set_option linter.unusedVariables false
set_option linter.unusedSimpArgs false
theorem sum_txt2 : ∀ {g : List RdM.Bs}, (∀ r ∈ g, r.length ≤ 65536) → ((g.map txt).flatten).length ≤ (g.map List.length).sum + 9 * g.length
  | [], _ => by simp
  | x :: g, h => by
    have h1 := sum_txt2 (g := g) fun r hr => h r (by simp [hr])
    have h2 := h x (by simp)
    have h3 := txt_le (x := x) (by omega)
    simp only [List.map_cons, List.flatten_cons, List.length_append, List.length_cons, List.sum_cons] at h1 ⊢
    omega
theorem encG_sum {f : Nat} {g : List RdM.Bs} (hg : OkG g) (hf : f ≤ 1099511627776) : (encG f g).length ≤ (g.map List.length).sum + 9 * g.length + 36 := by
  have hb : (body f g).length ≤ (g.map List.length).sum + 9 * g.length + 18 := by
    unfold body
    have h1 := encN_le (x := (f : Int)) (by omega)
    have hl := hg.len
    have h2 := encN_le (x := (g.length : Int)) (by omega)
    have h3 := sum_txt2 hg.rc
    rw [List.length_append, List.length_append]; omega
  have hbl := body_le hg hf
  unfold encG
  have h2 := txt_le (x := body f g) (by omega)
  have h3 := crc_lt (body f g)
  have h4 := encN_le (x := (crc (body f g) : Int)) (by omega)
  rw [List.length_append]; omega
def newL : Lg := ⟨1, [], [], true, false⟩
theorem oks_nil : OkS 1 [] := ⟨Nat.le_refl _, fun _ => rfl, List.Pairwise.nil, fun x hx => by simp at hx, fun x hx => by simp at hx⟩
theorem okl_new : OkL newL := ⟨oks_nil, fun r hr => by simp [newL] at hr, by simp [newL], by simp [newL, allR]⟩
theorem onD_new (nm : RdM.Bs) (n : Int) : OnD nm newL (newS n) := ⟨trivial, fun h => by simp [newL] at h⟩
set_option maxHeartbeats 400000 in
set_option maxRecDepth 100000 in
theorem made_c {σ : World} {F : List Res} (lab1 lab2 : Nat) (n : Int) (nm : RdM.Bs) (hn : 0 ≤ n ∧ n ≤ 67108864) (hok : DskM.nameB nm = true ∧ nm.length ≤ 48) :
    FnT Try.prog σ F 12 [.int .i64 n, .string (str nm)] [] (fun u ρ => ∃ d b, u = .tuple #[.pointer (some ⟨d, 0, none⟩), .pointer (some ⟨b, 0, none⟩)] ∧ ρ = [(lab1, dkR d (newS n)), (lab2, lgR b d nm newL)]) := by
  refine fn_of 26 Try.func12 rfl Try.ntmps12 rfl ?_
  refine w_seq (w_region (za rfl (za rfl (wl_nil (st_tn (w_seq (w_region (zm rfl (wl_op [] rfl rfl rfl rfl (op_fn Try.func32 rfl rfl rfl (dnew_c 601 n hn)) ?_)))))))))
  rintro _ _ ⟨d11, rfl, rfl⟩
  refine zm rfl (zd rfl (op_extract rfl rfl) (zd rfl (op_extract rfl rfl) (za rfl (za rfl (wl_nil (st_tn (w_seq (w_seq (w_region (zm rfl (zd rfl (op_val (v' := .bool false) (by rfl) (op_neq rfl rfl)) ?_)))))))))))
  refine wl_nil (st_tn (w_cond_f (rfl) ?_))
  refine w_skip (st_tn (w_seq (w_region (zm rfl (zm rfl (wl_op [601] rfl rfl rfl rfl (op_fn Try.func16 rfl rfl rfl (lopen_c (s := newS n) (first := 1) (segs := []) 601 611 hok rfl (good_new hn) oks_nil trivial (by simp [allR]))) ?_))))))
  rintro _ _ ⟨b19, rfl, rfl⟩
  refine zm rfl (zd rfl (op_extract rfl rfl) (zd rfl (op_extract rfl rfl) (za rfl (za rfl (wl_nil (st_tn (w_seq (w_seq (w_region (zm rfl (zd rfl (op_val (v' := .bool false) (by rfl) (op_neq rfl rfl)) ?_)))))))))))
  refine wl_nil (st_tn (w_cond_f (rfl) ?_))
  refine w_skip (st_tn (w_seq (w_region (zm rfl (zm rfl (za rfl (za rfl (wl_nil (st_tn (w_ret (st_ret (vs := [_, _]) [601, 611] Try.results12 ⟨rfl, ⟨rfl, trivial⟩⟩ rfl ?_)))))))))))
  refine ⟨[(lab1, _), (lab2, _)], rfl, ?_⟩
  exact ⟨_, _, rfl, rfl⟩
section
variable {σ : World} {F : List Res} {b d : Nat} {nm : RdM.Bs} {L L' : Lg} {s s' : DskM.St} (lab lab1 lab2 : Nat)
theorem lappend_to {r : RdM.Bs} {n e : Int} (h : appL L r = ((n, e), L')) (hL : OkL L) (hr : r.length ≤ 1099511627776) : FnT Try.prog σ F 14 [.pointer (some ⟨b, 0, none⟩), .string (str r)] [(lab, lgR b d nm L)] (fun u ρ => u = .tuple #[.int .i64 n, .int .i64 e] ∧ ρ = [(lab, lgR b d nm L')]) := by
  have := lappend_c (σ := σ) (F := F) (b := b) (d := d) (nm := nm) lab hL r hr
  rw [h] at this; exact this
theorem commit_to {n e : Int} (h : comO nm L s = ((n, e), L', s')) (hL : OkL L) (hg : DskM.Good s) (hnm : nm.length ≤ 48) (hnx : nextN L.segs L.fresh ≤ 999999) : FnT Try.prog σ F 15 [.pointer (some ⟨b, 0, none⟩)] [(lab1, dkR d s), (lab2, lgR b d nm L)] (fun u ρ => u = .tuple #[.int .i64 n, .int .i64 e] ∧ ρ = [(lab1, dkR d s'), (lab2, lgR b d nm L')]) := by
  have := commit_c (σ := σ) (F := F) (b := b) (d := d) lab1 lab2 hL hg hnm hnx
  rw [h] at this; exact this
end
def k1 : Lg := ⟨1, [], [[97]], true, false⟩
def k2 : Lg := ⟨1, [], [[97], [98]], true, false⟩
def k3 : Lg := ⟨1, [⟨1, [[[97], [98]]]⟩], [], false, false⟩
def k4 : Lg := ⟨1, [⟨1, [[[97], [98]]]⟩], [[99]], false, false⟩
def kS : DskM.St := addD (newS 262144) (fileN [108, 111, 103] 1) (encG 1 [[97], [98]])
theorem name_log : DskM.nameB [108, 111, 103] = true ∧ ([108, 111, 103] : RdM.Bs).length ≤ 48 := by decide
theorem okl_k1 : OkL k1 := ⟨oks_nil, by decide, by decide, by decide⟩
theorem okl_k2 : OkL k2 := ⟨oks_nil, by decide, by decide, by decide⟩
theorem okg_k : OkG [[97], [98]] := ⟨by simp, by decide, by decide⟩
theorem oks_k3 : OkS 1 k3.segs := ⟨by decide, by decide, by simp [k3], by decide, fun x hx => by simp [k3] at hx; subst hx; exact ⟨by simp, fun g hg => by simp at hg; subst hg; exact okg_k⟩⟩
theorem okl_k3 : OkL k3 := ⟨oks_k3, by decide, by decide, by decide⟩
theorem good_kS : DskM.Good kS ∧ comO [108, 111, 103] k2 (newS 262144) = ((2, 0), k3, kS) ∧ OnD [108, 111, 103] k3 kS := by
  have hg : DskM.Good (newS 262144) := good_new (by decide)
  have hc := com_q (nm := [108, 111, 103]) (L := k2) (s := newS 262144) name_log hg rfl rfl rfl (by simp [k2]) (by simp [newS]) (by
    have h1 := encG_sum (f := lastN k2 + 1) (g := k2.pend) okg_k (by decide)
    have h2 : (k2.pend.map List.length).sum + 9 * k2.pend.length = 20 := rfl
    have h3 : DskM.used (newS 262144).fs = 0 := rfl
    rw [h3]; show _ ≤ (262144 : Int); omega)
  have ho := onD_commit (nm := [108, 111, 103]) (L := k2) (s := newS 262144) okl_k2 ⟨trivial, fun h => by simp [k2] at h⟩ hg.inc (by simp [k2]) (by decide)
  refine ⟨?_, hc, ho⟩
  have h1 := (hg.app (fileN [108, 111, 103] 1) (encG 1 [[97], [98]])).syn_ (fileN [108, 111, 103] 1)
  have h2 := app_q (s := newS 262144) rfl rfl (inR_file name_log 1) (x := encG 1 [[97], [98]]) (by simp [newS]) (by
    have h1 := encG_sum (f := 1) (g := [[97], [98]]) okg_k (by decide)
    have h2 : (([[97], [98]] : List RdM.Bs).map List.length).sum + 9 * ([[97], [98]] : List RdM.Bs).length = 20 := rfl
    have h3 : DskM.used (newS 262144).fs = 0 := rfl
    rw [h3]; show _ ≤ (262144 : Int); omega)
  rw [h2] at h1
  dsimp only at h1
  rw [syn_q hg.inc rfl rfl (inR_file name_log 1)] at h1
  exact h1
set_option maxHeartbeats 2000000 in
set_option maxRecDepth 100000 in
theorem known_any {σ : World} {F : List Res} : FnT Try.prog σ F 13 [] [] (fun u ρ => u = .bool true ∧ ρ = []) := by
  refine fn_of 97 Try.func13 rfl Try.ntmps13 rfl ?_
  obtain ⟨hgk, hck, hok⟩ := good_kS
  refine w_seq (w_region (za rfl (wl_nil (st_tn (w_seq (w_region (wl_op [] rfl rfl rfl rfl (op_fn Try.func12 rfl rfl rfl (made_c 601 611 262144 [108, 111, 103] (by decide) name_log)) ?_)))))))
  rintro _ _ ⟨d16, b16, rfl, rfl⟩
  refine zm rfl (zd rfl (op_extract rfl rfl) (zd rfl (op_extract rfl rfl) (za rfl (za rfl (wl_nil (st_tn (w_seq (w_seq (w_region (zm rfl (zd rfl (op_val (v' := .bool false) (by rfl) (op_eqPtr rfl Try.underlying23)) ?_)))))))))))
  refine wl_nil (st_tn (w_cond_f (rfl) ?_))
  refine w_skip (st_tn (w_seq (w_region (zm rfl (wl_op [611] rfl rfl rfl rfl (op_fn Try.func14 rfl rfl rfl (lappend_to (r := [97]) 611 (show appL newL [97] = ((1, 0), k1) from rfl) okl_new (by decide))) ?_)))))
  rintro _ _ ⟨rfl, rfl⟩
  refine zm rfl (zd rfl (op_extract rfl rfl) (zd rfl (op_extract rfl rfl) (za rfl (za rfl (wl_nil (st_tn (w_seq (w_region (zm rfl (wl_op [611] rfl rfl rfl rfl (op_fn Try.func14 rfl rfl rfl (lappend_to (r := [98]) 611 (show appL k1 [98] = ((2, 0), k2) from rfl) okl_k1 (by decide))) ?_))))))))))
  rintro _ _ ⟨rfl, rfl⟩
  refine zm rfl (zd rfl (op_extract rfl rfl) (zd rfl (op_extract rfl rfl) (za rfl (za rfl (wl_nil (st_tn (w_seq (w_region (zm rfl (wl_op [601, 611] rfl rfl rfl rfl (op_fn Try.func15 rfl rfl rfl (commit_to 601 611 hck okl_k2 (good_new (by decide)) (by decide) (by decide))) ?_))))))))))
  rintro _ _ ⟨rfl, rfl⟩
  refine zm rfl (zd rfl (op_extract rfl rfl) (zd rfl (op_extract rfl rfl) (za rfl (za rfl (wl_nil (st_tn (w_seq (w_region (zm rfl (wl_op [611] rfl rfl rfl rfl (op_fn Try.func14 rfl rfl rfl (lappend_to (r := [99]) 611 (show appL k3 [99] = ((3, 0), k4) from rfl) okl_k3 (by decide))) ?_))))))))))
  rintro _ _ ⟨rfl, rfl⟩
  refine zm rfl (zd rfl (op_extract rfl rfl) (zd rfl (op_extract rfl rfl) (za rfl (za rfl (wl_nil (st_tn (w_seq (w_region (zm rfl (wl_op [601] rfl rfl rfl rfl (op_fn Try.func16 rfl rfl rfl (lopen_c (s := kS) (first := 1) (segs := k3.segs) 601 621 name_log rfl hgk oks_k3 hok.holds (by decide))) ?_))))))))))
  rintro _ _ ⟨b43, rfl, rfl⟩
  refine zm rfl (zd rfl (op_extract rfl rfl) (zd rfl (op_extract rfl rfl) (za rfl (za rfl (wl_nil (st_tn (w_seq (w_seq (w_region (zm rfl (zd rfl (op_val (v' := .bool false) (by rfl) (op_neq rfl rfl)) ?_)))))))))))
  refine zm rfl (wl_wanted_det rfl rfl rfl rfl rfl rfl rfl (op_move rfl) (wl_wanted_det rfl rfl rfl rfl rfl rfl rfl (op_val (v' := .bool false) (by rfl) (op_neq rfl rfl)) ?_))
  refine zd rfl (op_pick_f rfl rfl) (zm rfl (wl_wanted_det rfl rfl rfl rfl rfl rfl rfl (op_move rfl) (wl_wanted_det rfl rfl rfl rfl rfl rfl rfl (op_val (v' := .bool false) (by rfl) (op_neq rfl rfl)) ?_)))
  refine zd rfl (op_pick_f rfl rfl) (zm rfl (wl_wanted_det rfl rfl rfl rfl rfl rfl rfl (op_move rfl) (wl_wanted_det rfl rfl rfl rfl rfl rfl rfl (op_val (v' := .bool false) (by rfl) (op_neq rfl rfl)) ?_)))
  refine zd rfl (op_pick_f rfl rfl) (zm rfl (wl_wanted_det rfl rfl rfl rfl rfl rfl rfl (op_move rfl) (wl_wanted_det rfl rfl rfl rfl rfl rfl rfl (op_val (v' := .bool false) (by rfl) (op_neq rfl rfl)) ?_)))
  refine zd rfl (op_pick_f rfl rfl) (zm rfl (wl_wanted_det rfl rfl rfl rfl rfl rfl rfl (op_move rfl) (wl_wanted_det rfl rfl rfl rfl rfl rfl rfl (op_val (v' := .bool false) (by rfl) (op_eqPtr rfl Try.underlying23)) ?_)))
  refine zd rfl (op_pick_f rfl rfl) (zm rfl (wl_wanted_det rfl rfl rfl rfl rfl rfl rfl (op_move rfl) (wl_wanted_det rfl rfl rfl rfl rfl rfl rfl (op_val (v' := .bool false) (by rfl) (op_neq rfl rfl)) ?_)))
  refine zd rfl (op_pick_f rfl rfl) (zm rfl (wl_wanted_det rfl rfl rfl rfl rfl rfl rfl (op_move rfl) (wl_wanted_det rfl rfl rfl rfl rfl rfl rfl (op_val (v' := .bool false) (by rfl) (op_neq rfl rfl)) ?_)))
  refine zd rfl (op_pick_f rfl rfl) (wl_nil (st_tn (w_cond_f (rfl) ?_)))
  refine w_skip (st_tn (w_seq (w_region (zm rfl (wl_op [621] rfl rfl rfl rfl (op_fn Try.func30 rfl rfl rfl (lread_c (L := ⟨1, k3.segs, [], true, false⟩) 621 ⟨oks_k3, by decide, by decide, by decide⟩ 2 (by decide))) ?_)))))
  rintro _ _ ⟨rfl, rfl⟩
  refine zm rfl (zd rfl (op_extract rfl rfl) (zd rfl (op_extract rfl rfl) (za rfl (za rfl (wl_nil (st_tn (w_seq (w_region (zm rfl (wl_op [621] rfl rfl rfl rfl (op_fn Try.func17 rfl rfl rfl (llast_c (L := ⟨1, k3.segs, [], true, false⟩) 621 ⟨oks_k3, by decide, by decide, by decide⟩)) ?_))))))))))
  rintro _ _ ⟨rfl, rfl⟩
  refine zd rfl (op_val (v' := .bool true) (by rfl) (op_eql rfl rfl)) ?_
  refine zm rfl (wl_wanted_det rfl rfl rfl rfl rfl rfl rfl (op_move rfl) (wl_wanted [621] rfl rfl rfl rfl rfl rfl rfl rfl (op_fn Try.func21 rfl rfl rfl (lpending_c (L := ⟨1, k3.segs, [], true, false⟩) 621 ⟨oks_k3, by decide, by decide, by decide⟩)) ?_))
  rintro _ _ ⟨rfl, rfl⟩
  refine wl_wanted_det rfl rfl rfl rfl rfl rfl rfl (op_val (v' := .bool true) (by rfl) (op_eql rfl rfl)) ?_
  refine zd rfl (op_pick_t rfl rfl) (zm rfl (wl_wanted_det rfl rfl rfl rfl rfl rfl rfl (op_move rfl) (wl_wanted_det rfl rfl rfl rfl rfl rfl rfl (op_val (v' := .bool true) (by rfl) (op_eqBs rfl rfl)) ?_)))
  refine zd rfl (op_pick_t rfl rfl) (zm rfl (wl_wanted_det rfl rfl rfl rfl rfl rfl rfl (op_move rfl) (wl_wanted_det rfl rfl rfl rfl rfl rfl rfl (op_val (v' := .bool true) (by rfl) (op_eql rfl rfl)) ?_)))
  refine zd rfl (op_pick_t rfl rfl) (za rfl (wl_nil (st_tn (w_ret (st_ret (vs := [_]) [] Try.results13 ⟨rfl, trivial⟩ rfl ?_)))))
  refine ⟨_, rfl, ?_⟩
  exact ⟨rfl, rfl⟩
end Go.Proofs.Ytcbigmgakdanjaa
namespace Go.Proofs.Ytcbigmgakdanjaa
open Go Go.SL Go.RowKit Go.RdM Go.WalM
set_option linter.unusedVariables false
set_option linter.unusedSimpArgs false
end Go.Proofs.Ytcbigmgakdanjaa
namespace Go.Proofs.Ytcbigmgakdanjaa
open Go Go.SL Go.RowKit Go.RdM Go.WalM
set_option linter.unusedVariables false
set_option linter.unusedSimpArgs false
end Go.Proofs.Ytcbigmgakdanjaa
namespace Go.Proofs.Ytcbigmgakdanjaa
open Go Go.SL Go.RowKit Go.RdM Go.WalM
set_option linter.unusedVariables false
set_option linter.unusedSimpArgs false
theorem oldD_len (s : DskM.St) (n : RdM.Bs) : (oldD s n).length = DskM.lenOf s.fs n := by
  unfold oldD DskM.lenOf
  cases DskM.find s.fs n <;> rfl
theorem used_add {s : DskM.St} (hi : DskM.Inc s.fs) (n x : RdM.Bs) : DskM.used (addD s n x).fs = DskM.used s.fs + x.length ∧ (addD s n x).fs.length ≤ s.fs.length + 1 := by
  have h1 := DskM.used_set (k := n) (f := ⟨oldD s n ++ x, (oldD s n ++ x).length, true⟩) hi
  have h2 := DskM.len_set (k := n) (f := ⟨oldD s n ++ x, (oldD s n ++ x).length, true⟩) hi
  dsimp only at h1
  rw [List.length_append, oldD_len] at h1
  constructor
  · show DskM.used (DskM.setS s.fs n _) = _
    rw [show (oldD s n ++ x).length = DskM.lenOf s.fs n + x.length by rw [List.length_append, oldD_len]] at *
    omega
  · show (DskM.setS s.fs n _).length ≤ _
    rw [h2]; split <;> omega
theorem com_all {nm : RdM.Bs} {L : Lg} {s : DskM.St} (hL : OkL L) (hO : OnD nm L s) (hg : DskM.Good s) (hd : s.down = false) (hl : s.lim = false) (hnm : DskM.nameB nm = true ∧ nm.length ≤ 48) (hb : L.broken = false) (hp : L.pend ≠ []) (hnx : nextN L.segs L.fresh ≤ 999999) (hc : s.fs.length < 256)
    (hu : (DskM.used s.fs + (encG (lastN L + 1) L.pend).length : Int) ≤ s.cap) (hz : L.first + (allR L.segs).length + L.pend.length ≤ 1000000000000) :
    ∃ s1, s1 = addD s (fileN nm (nextN L.segs L.fresh)) (encG (lastN L + 1) L.pend) ∧ comO nm L s = ((((lastN (commitL L) : Nat) : Int), 0), commitL L, s1) ∧ DskM.Good s1 ∧ OnD nm (commitL L) s1 ∧ OkL (commitL L) ∧ s1.down = false ∧ s1.lim = false ∧ s1.cap = s.cap ∧ DskM.used s1.fs = DskM.used s.fs + (encG (lastN L + 1) L.pend).length ∧ s1.fs.length ≤ s.fs.length + 1 := by
  have hn := inR_file hnm (nextN L.segs L.fresh)
  refine ⟨_, rfl, com_q hnm hg hd hl hb hp hc hu, ?_, onD_commit hL hO hg.inc hp hnx, ?_, hd, hl, rfl, (used_add hg.inc _ _).1, (used_add hg.inc _ _).2⟩
  · have h1 := (hg.app (fileN nm (nextN L.segs L.fresh)) (encG (lastN L + 1) L.pend)).syn_ (fileN nm (nextN L.segs L.fresh))
    rw [app_q hd hl hn hc hu] at h1
    dsimp only at h1
    rw [syn_q hg.inc hd hl hn] at h1
    exact h1
  · rw [lastN_commit hp]
    refine ⟨oks_note hL.seg rfl ⟨hp, hL.pl, hL.pc⟩ hnx, fun r hr => by simp at hr, by simp, ?_⟩
    show L.first + (allR (noteS L.segs _ L.pend)).length ≤ _
    rw [noteS_all, List.length_append]; omega
structure Wt0 (P : List RdM.Bs) (i : Nat) : Prop where
  len : P.length = min i 256
  rc : ∀ r ∈ P, r.length ≤ 65536
  sum : (P.map List.length).sum ≤ 65536 + i
end Go.Proofs.Ytcbigmgakdanjaa
namespace Go.Proofs.Ytcbigmgakdanjaa
open Go Go.SL Go.RowKit Go.RdM Go.WalM
set_option linter.unusedVariables false
set_option linter.unusedSimpArgs false
theorem tF41_1wx : fieldB Try.prog 41 1 1 = true := by kernel_rfl
theorem tF41_2wx : fieldB Try.prog 41 2 2 = true := by kernel_rfl
theorem tM27wx : makeB Try.prog 27 5 1 = some (Value.int .u8 0) := by kernel_rfl
theorem tMixwx : Try.prog.follows .mixedOrders = true := by kernel_rfl
theorem tO5wx : oneB Try.prog 5 = true := by kernel_rfl
theorem tO9wx : oneB Try.prog 9 = true := by kernel_rfl
theorem tS27wx : sliceB Try.prog 27 5 1 = true := by kernel_rfl
theorem tS35wx : sliceB Try.prog 35 9 1 = true := by kernel_rfl
def recI (n : Int) (i : Nat) : RdM.Bs := (List.range i).map fun j => UInt8.ofNat (n.toNat + j)
def recB (z n : Int) : RdM.Bs := recI n (z % 40).toNat
theorem recI_len (n : Int) (i : Nat) : (recI n i).length = i := by unfold recI; simp
theorem recI_succ (n : Int) (i : Nat) : recI n (i + 1) = recI n i ++ [UInt8.ofNat (n.toNat + i)] := by unfold recI; rw [List.range_succ, List.map_append]; rfl
theorem rec_set {n : Int} {k i : Nat} (h : i < k) : (recI n i ++ List.replicate (k - i) (0 : UInt8)).set i (UInt8.ofNat (n.toNat + i)) = recI n (i + 1) ++ List.replicate (k - (i + 1)) 0 := by
  rw [List.set_append_right _ _ (by rw [recI_len]; omega), recI_len, Nat.sub_self, recI_succ, List.append_assoc]
  have : k - i = (k - (i + 1)) + 1 := by omega
  rw [this, List.replicate_succ]; rfl
set_option maxHeartbeats 1000000 in
set_option maxRecDepth 100000 in
theorem record_any {σ : World} {F : List Res} (k z n : Int) (hz : 0 ≤ z ∧ z ≤ 255) (hn : 0 ≤ n ∧ n ≤ 255) : FnT Try.prog σ F 19 [.agg #[.int .u8 k, .int .u8 z, .int .u8 n]] [] (fun u ρ => u = .string (str (recB z n)) ∧ ρ = []) := by
  refine fn_of 27 Try.func19 rfl Try.ntmps19 rfl ?_
  refine w_seq (w_region (wl_op [] rfl rfl rfl rfl (op_box (T := 41) (l := 1) rfl) ?_))
  rintro _ _ ⟨b1, rfl, rfl⟩
  refine za rfl (wl_nil (st_tn (w_seq ?_)))
  obtain ⟨m, hm⟩ : ∃ m : Nat, m = (z % 40).toNat := ⟨_, rfl⟩
  refine w_region (zd rfl (op_fieldAddr (off := 1) rfl tF41_1wx) (zd rfl (op_load1 rfl tO5wx (Ent.lab (l := 1) rfl (says_cel 1))) (zd rfl (op_remN rfl rfl (by omega) (by omega)) ?_)))
  refine zd rfl (op_val (v' := .int .i64 (m : Int)) (by rw [hm, show ((z % 40).toNat : Int) = z % 40 by omega]) (op_convI64 rfl (by rw [Try.underlying5]; rfl) Try.underlying3 (by omega))) ?_
  refine wl_op [] rfl rfl rfl rfl (op_makeSlice (enc := encU) (a0 := 0) (lab := 9) rfl rfl tM27wx (fun _ => rfl) rfl rfl (by omega) (by unfold maxLen; omega)) ?_
  rintro _ _ ⟨a9, c9, rfl, rfl⟩
  refine za rfl (wl_nil (st_tn (w_seq (w_seq (w_region (za rfl (wl_nil (st_tn (w_block ?_)))))))))
  refine w_loopQ (X := Nat × List UInt8) (fun z => z.1 ≤ m ∧ z.2 = recI n z.1 ++ List.replicate (m - z.1) 0) (fun z => [(4, .int .i64 (z.1))]) (fun z => [(9, slW 5 encU 1 (.slice a9 ((List.replicate m (0 : UInt8)).length) c9) (z.2))]) (fun z => m - z.1) ((0, List.replicate m 0)) [(1, _), (3, _)] [(1, _)] [9, 1] rfl (rfl) (.cons rfl (.nil _)) (.cons rfl (.cons rfl (.nil _))) (by
      try dsimp only
      exact ⟨Nat.zero_le _, by simp [recI]⟩) ?_
  rintro ⟨i, B⟩ ⟨hi, hB⟩
  refine w_norm2 (by dsimp only [List.cons_append, List.nil_append]) (by dsimp only [List.cons_append, List.nil_append]) ?_
  try dsimp only at hi hB ⊢
  refine w_seq (w_seq ?_)
  have hBl : B.length = m := by rw [hB, List.length_append, recI_len, List.length_replicate]; omega
  refine w_region (zm rfl (zm rfl (zd rfl (op_lenT rfl tS27wx (Sl.ent (Sl.lab 9 rfl (by unfold maxLen; first | omega | (rw [List.length_replicate]; omega) | (rw [hBl]; omega))))) ?_)))
  refine zd rfl (op_lss rfl rfl) (wl_nil (st_tn (w_cond_d rfl (fun hc13 => ?_) (fun hc13 => ?_))))
  · -- c13.t
    obtain ⟨x, hx⟩ := getE (l := B) (i := i) (by omega)
    refine w_skip (st_tn (w_seq (w_block (w_region (zm rfl (zm rfl (zd rfl (op_fieldAddr (off := 2) rfl tF41_2wx) (zd rfl (op_load1 rfl tO5wx (Ent.lab (l := 1) rfl (says_cel 2))) (zd rfl (op_convI64 rfl (by rw [Try.underlying5]; rfl) Try.underlying3 (by omega)) ?_)))))))))
    refine zm rfl (zd rfl (op_add' rfl rfl (by omega)) ?_)
    refine zd rfl (op_val (v' := .int .u8 ((UInt8.ofNat (n.toNat + i)).toNat : Int)) (by rw [show (n + (i : Int)).toNat = n.toNat + i by omega]) (op_convU rfl (by rw [Try.underlying3]; rfl) Try.underlying5 (by omega))) ?_
    refine zd rfl (op_idx rfl rfl tS27wx (Sl.ent (Sl.lab 9 rfl (by unfold maxLen; first | omega | (rw [List.length_replicate]; omega) | (rw [hBl]; omega)))) (by omega)) ?_
    refine wl_op0 [9] rfl rfl rfl (op_storeX (lab := 9) (j := 0) (b' := UInt8.ofNat (n.toNat + i)) rfl rfl tO5wx rfl rfl (by rfl) hx (by decide) (by rfl)) ?_
    rintro _ _ ⟨rfl, rfl⟩
    refine wl_nil (st_bn (st_tn (w_region (zm rfl (zd rfl (op_add' rfl rfl (by omega)) ?_)))))
    refine za rfl (wl_nil ?_)
    refine st_roundQ (x := (i, B)) ((i + 1, B.set i (UInt8.ofNat (n.toNat + i)))) [9, 1] rfl (rfl) (.cons rfl (.nil _)) (.cons rfl (.cons rfl (.nil _))) (by
        try dsimp only
        exact ⟨by omega, by rw [hB, rec_set (by omega)]⟩) (by
        try dsimp only
        omega)
  · -- c13.f
    refine w_exit (st_te ?_)
    refine st_te ?_
    refine st_be (st_tn (w_seq (w_region (zm rfl (zd rfl (op_bytesStr rfl Try.underlying27 Try.underlying5 Try.underlying9 (Sl.lab 9 rfl (by unfold maxLen; first | omega | (rw [List.length_replicate]; omega) | (rw [hBl]; omega)))) ?_)))))
    refine za rfl (wl_nil (st_tn (w_ret (st_ret (vs := [_]) [] Try.results19 ⟨rfl, trivial⟩ rfl ?_))))
    refine ⟨_, rfl, ?_⟩
    have hfin : B = recB z n := by
      have h1 : i = m := by rw [hBl] at *; omega
      rw [hB, h1, Nat.sub_self]; unfold recB; rw [← hm]; simp
    rw [hfin]; exact ⟨rfl, rfl⟩
set_option maxHeartbeats 400000 in
set_option maxRecDepth 100000 in
theorem same_any {σ : World} {F : List Res} {p q : Option Addr} {c d : Nat} {a b : List RdM.Bs} (h : Sl σ F encT 1 (.slice p a.length c) a) (g : Sl σ F encT 1 (.slice q b.length d) b) :
    FnT Try.prog σ F 25 [.slice p a.length c, .slice q b.length d] [] (fun u ρ => u = .bool (decide (a = b)) ∧ ρ = []) := by
  refine fn_of 26 Try.func25 rfl Try.ntmps25 rfl ?_
  have hle := h.i64
  refine w_seq (w_region (za rfl (wl_nil (st_tn (w_seq (w_seq (w_region (zm rfl (zd rfl (op_lenT rfl tS35wx (Sl.ent (by first | exact Sl.app (by assumption) _ | exact Sl.app (Sl.app (by assumption) _) _))) ?_)))))))))
  refine zm rfl (zd rfl (op_lenT rfl tS35wx (Sl.ent (by first | exact Sl.app (by assumption) _ | exact Sl.app (Sl.app (by assumption) _) _))) ?_)
  refine zd rfl (op_neq rfl rfl) (wl_nil (st_tn (w_cond_d rfl (fun hc10 => ?_) (fun hc10 => ?_))))
  · -- c10.t
    refine w_seq (w_region (za rfl (wl_nil (st_tn (w_ret (st_tr (st_ret (vs := [_]) [] Try.results25 ⟨rfl, trivial⟩ rfl ?_)))))))
    refine ⟨_, rfl, ?_⟩
    have hne : a ≠ b := fun e => by subst e; omega
    rw [decide_eq_false hne]; exact ⟨rfl, rfl⟩
  · -- c10.f
    refine w_skip (st_tn (w_seq (w_seq (w_region (za rfl (wl_nil (st_tn (w_block ?_))))))))
    refine w_loopQ (X := Nat) (fun z => z ≤ a.length ∧ a.take z = b.take z) (fun z => [(5, .int .i64 (z))]) (fun _ => []) (fun z => a.length - z) (0) [(0, _), (1, _)] [] [] rfl (rfl) (.cons rfl (.nil _)) (.cons rfl (.cons rfl (.nil _))) (by
        try dsimp only
        exact ⟨Nat.zero_le _, by simp⟩) ?_
    rintro i ⟨hi, ht⟩
    refine w_norm2 (by dsimp only [List.cons_append, List.nil_append]) (by dsimp only [List.cons_append, List.nil_append]) ?_
    try dsimp only at hi ht ⊢
    refine w_seq (w_seq (w_region (zm rfl (zm rfl (zd rfl (op_lenT rfl tS35wx (Sl.ent (by first | exact Sl.app (by assumption) _ | exact Sl.app (Sl.app (by assumption) _) _))) ?_)))))
    refine zd rfl (op_lss rfl rfl) (wl_nil (st_tn (w_cond_d rfl (fun hc14 => ?_) (fun hc14 => ?_))))
    · -- c14.t
      obtain ⟨x, hx⟩ := getE (l := a) (i := i) (by omega)
      obtain ⟨y, hy⟩ := getE (l := b) (i := i) (by omega)
      refine w_skip (st_tn (w_seq (w_block (w_seq ?_))))
      refine w_draw (D := [⟨17, [], [], [], _, false, [], []⟩, ⟨18, [], [], [], _, false, [], []⟩, ⟨19, [0, 1], [], [], _, false, [], []⟩, ⟨20, [2], [], [], _, false, [], []⟩, ⟨21, [], [], [], _, false, [], []⟩, ⟨22, [], [], [], _, false, [], []⟩, ⟨23, [4, 5], [], [], _, false, [], []⟩, ⟨24, [6], [], [], _, false, [], []⟩]) [] [0, 5, 1] [⟨17, [], [], false, [], []⟩, ⟨18, [], [], false, [], []⟩, ⟨19, [0, 1], [], false, [], []⟩, ⟨20, [2], [], false, [], []⟩, ⟨21, [], [], false, [], []⟩, ⟨22, [], [], false, [], []⟩, ⟨23, [4, 5], [], false, [], []⟩, ⟨24, [6], [], false, [], []⟩] tMixwx (by rfl) (by kernel_rfl) (by rfl) (by rfl)
          ⟨.plain rfl (by intro X; exact op_move rfl),
          ⟨.plain rfl (by intro X; exact op_move rfl),
          ⟨.plain rfl (by intro X; rintro _ _ ⟨rfl, rfl⟩ _ _ ⟨rfl, rfl⟩; exact op_idx rfl rfl tS35wx (Sl.ent (by first | exact Sl.app (by assumption) _ | exact Sl.app (Sl.app (by assumption) _) _)) (by omega)),
          ⟨.plain rfl (by intro X; rintro _ _ ⟨rfl, rfl⟩; exact op_ldx rfl tO9wx (by first | exact Sl.app (by assumption) _ | exact Sl.app (Sl.app (by assumption) _) _) (by assumption) (by rfl)),
          ⟨.plain rfl (by intro X; exact op_move rfl),
          ⟨.plain rfl (by intro X; exact op_move rfl),
          ⟨.plain rfl (by intro X; rintro _ _ ⟨rfl, rfl⟩ _ _ ⟨rfl, rfl⟩; exact op_idx rfl rfl tS35wx (Sl.ent (by first | exact Sl.app (by assumption) _ | exact Sl.app (Sl.app (by assumption) _) _)) (by omega)),
          ⟨.plain rfl (by intro X; rintro _ _ ⟨rfl, rfl⟩; exact op_ldx rfl tO9wx (by first | exact Sl.app (by assumption) _ | exact Sl.app (Sl.app (by assumption) _) _) (by assumption) (by rfl)),
          trivial⟩⟩⟩⟩⟩⟩⟩⟩ ?_
      rintro _ _ ⟨rfl, rfl⟩ _ _ ⟨rfl, rfl⟩ _ _ ⟨rfl, rfl⟩ _ _ ⟨rfl, rfl⟩ _ _ ⟨rfl, rfl⟩ _ _ ⟨rfl, rfl⟩ _ _ ⟨rfl, rfl⟩ _ _ ⟨rfl, rfl⟩
      refine wl_norm (e' := [(0, _), (1, _), (5, _), (20, _), (24, _)]) (.cons rfl (.cons rfl (.cons rfl (.cons rfl (.cons rfl (.nil _)))))) (by dsimp only [cond_false, cond_true, List.nil_append, List.cons_append]) ?_
      refine zd rfl (op_neBs rfl rfl) (wl_nil (st_tn (w_cond_d rfl (fun hc25 => ?_) (fun hc25 => ?_))))
      · -- c25.t
        refine w_seq (w_region (za rfl (wl_nil (st_tn (w_ret (st_br (st_tr (st_tr (st_br (st_tr (st_ret (vs := [_]) [] Try.results25 ⟨rfl, trivial⟩ rfl ?_)))))))))))
        refine ⟨_, rfl, ?_⟩
        have hne : a ≠ b := fun e => by subst e; rw [hx] at hy; simp at hy; exact hc25 hy
        rw [decide_eq_false hne]; exact ⟨rfl, rfl⟩
      · -- c25.f
        have hxy : x = y := Classical.not_not.1 hc25
        refine w_skip (st_bn (st_tn (w_region (zm rfl (zd rfl (op_add' rfl rfl (by omega)) ?_)))))
        refine za rfl (wl_nil ?_)
        refine st_roundQ (x := i) (i + 1) [] rfl (rfl) (.cons rfl (.nil _)) (.cons rfl (.cons rfl (.nil _))) (by
            try dsimp only
            exact ⟨by omega, by rw [take_snoc hx, take_snoc hy, ht, hxy]⟩) (by
            try dsimp only
            omega)
    · -- c14.f
      refine w_exit (st_te ?_)
      refine st_te ?_
      refine st_be (st_tn (w_seq (w_region (za rfl (wl_nil (st_tn (w_ret (st_ret (vs := [_]) [] Try.results25 ⟨rfl, trivial⟩ rfl ?_))))))))
      refine ⟨_, rfl, ?_⟩
      have he : a = b := by rw [take_all (by omega), take_all (by omega)] at ht; exact ht
      rw [decide_eq_true he]; exact ⟨rfl, rfl⟩
end Go.Proofs.Ytcbigmgakdanjaa
namespace Go.Proofs.Ytcbigmgakdanjaa
open Go Go.SL Go.RowKit Go.RdM Go.WalM
set_option linter.unusedVariables false
set_option linter.unusedSimpArgs false
structure Fu (nm : RdM.Bs) (k : Nat) (L : Lg) (s : DskM.St) (all : List RdM.Bs) : Prop where
  ok : OkL L
  on : OnD nm L s
  good : DskM.Good s
  dn : s.down = false
  lm : s.lim = false
  br : L.broken = false
  pe : L.pend = []
  one : L.first = 1
  al : all = allR L.segs
  num : ∀ x ∈ L.segs, x.num ≤ k
  cnt : s.fs.length ≤ k
  len : all.length ≤ k
theorem nextN_lt {S : List Sg} {fr : Bool} {k : Nat} (h : ∀ x ∈ S, x.num ≤ k) : nextN S fr ≤ k + 1 := by
  rcases List.eq_nil_or_concat S with h0 | ⟨S', y, rfl⟩
  · subst h0; unfold nextN; simp
  · rw [List.concat_eq_append] at h ⊢
    have := h y (by simp)
    unfold nextN
    rw [List.getLast?_concat]
    dsimp only
    split <;> omega
theorem noteS_num {S : List Sg} {n k : Nat} {g : List RdM.Bs} (h : ∀ x ∈ S, x.num ≤ k) (hn : n ≤ k) : ∀ x ∈ noteS S n g, x.num ≤ k := fun x hx => by
  rcases noteS_mem hx with h1 | ⟨y, h1, h2, h3⟩ | h1
  · exact h x h1
  · subst h3; exact hn
  · subst h1; exact hn
theorem Fu.app {nm : RdM.Bs} {k : Nat} {L : Lg} {s : DskM.St} {all : List RdM.Bs} (h : Fu nm k L s all) {r : RdM.Bs} (hr : r.length ≤ 39) : appL L r = ((((all.length + 1 : Nat) : Int), 0), { L with pend := [r] }) ∧ OkL { L with pend := [r] } := by
  have h1 : lastN L = all.length := by unfold lastN; rw [h.one, h.al]; omega
  constructor
  · unfold appL
    rw [if_neg (by simp [h.br]), if_neg (by omega), if_neg (by rw [h.pe]; simp), h1, h.pe]; rfl
  · exact ⟨h.ok.seg, fun q hq => by simp at hq; subst hq; omega, by simp, h.ok.sz⟩
theorem Fu.com {nm : RdM.Bs} {k : Nat} {L : Lg} {s : DskM.St} {all : List RdM.Bs} (h : Fu nm k L s all) (hnm : DskM.nameB nm = true ∧ nm.length ≤ 48) (hk : k ≤ 100) {r : RdM.Bs} (hr : r.length ≤ 39) (hu : ¬ s.cap < (DskM.used s.fs + (encG (all.length + 1) [r]).length : Int)) :
    ∃ L2 s2, comO nm { L with pend := [r] } s = ((((all.length + 1 : Nat) : Int), 0), L2, s2) ∧ Fu nm (k + 1) L2 s2 (all ++ [r]) := by
  have h1 : lastN { L with pend := [r] } = all.length := by show lastN L = _; unfold lastN; rw [h.one, h.al]; omega
  have hnx := nextN_lt (fr := L.fresh) h.num
  have hsz : L.first + (allR L.segs).length ≤ 1000 := by rw [h.one, ← h.al]; have := h.len; omega
  obtain ⟨s1, hs1, e1, e2, e3, e4, e5, e6, e7, e8, e9⟩ := com_all (nm := nm) (L := { L with pend := [r] }) (s := s) (h.app hr).2 ⟨h.on.holds, h.on.tail⟩ h.good h.dn h.lm hnm h.br (by simp) (by show nextN L.segs L.fresh ≤ _; omega) (by have := h.cnt; omega) (by rw [h1]; show ((DskM.used s.fs : Int) + (encG (all.length + 1) [r]).length) ≤ _; omega) (by show L.first + (allR L.segs).length + 1 ≤ _; omega)
  have hcl := lastN_commit (L := { L with pend := [r] }) (by simp)
  have hall : allR (commitL { L with pend := [r] }).segs = all ++ [r] := by rw [hcl]; show allR (noteS L.segs _ [r]) = _; rw [noteS_all, h.al]
  have hfi : (commitL { L with pend := [r] }).first = 1 := by rw [hcl]; exact h.one
  refine ⟨_, _, ?_, ⟨e4, e3, e2, e5, e6, by rw [hcl]; exact h.br, by rw [hcl], hfi, hall.symm, ?_, by have := h.cnt; omega, by rw [List.length_append]; have := h.len; simp; omega⟩⟩
  · have h2 : lastN (commitL { L with pend := [r] }) = all.length + 1 := by unfold lastN; rw [hfi, hall, List.length_append]; simp
    rw [e1, h2]
  · rw [hcl]
    exact noteS_num (fun x hx => by have := h.num x hx; omega) hnx
theorem Fu.mono {nm : RdM.Bs} {k : Nat} {L : Lg} {s : DskM.St} {all : List RdM.Bs} (h : Fu nm k L s all) : Fu nm (k + 1) L s all := ⟨h.ok, h.on, h.good, h.dn, h.lm, h.br, h.pe, h.one, h.al, fun x hx => by have := h.num x hx; omega, by have := h.cnt; omega, by have := h.len; omega⟩
end Go.Proofs.Ytcbigmgakdanjaa
namespace Go.Proofs.Ytcbigmgakdanjaa
open Go Go.SL Go.RowKit Go.WideShapes
set_option linter.unusedVariables false
set_option linter.unusedSimpArgs false
structure OpL where
  k : Int
  z : Int
  n : Int
def encOpL (o : OpL) : List Value := [.int .u8 o.k, .int .u8 o.z, .int .u8 o.n]
set_option maxRecDepth 100000 in
theorem open_bytes {H : Type} {enc : TypeId × Value → H} {W : World} {v : Value} {d : DataW H} {p : List MemPlace} (hval : Value.okWide Try.prog W .any 0 27 v) (h : DataW.Trod enc Try.prog W 0 (fun _ => true) true 27 v d p) :
    ∃ (a1 : Option Addr) (c1 : Nat) (l1 : List UInt8), v = .slice a1 l1.length c1 ∧ Sl W [whole W] encU 1 (.slice a1 l1.length c1) l1 := by
  obtain ⟨a0, n0, c0, rfl⟩ := okWide_slice Try.underlying27 hval
  obtain ⟨d, hd, hc, hdeep⟩ := open_Trod (s := .slice 1 (.int .u8)) (by kernel_rfl) h
  obtain ⟨a1, c1, l1, rfl, hl1⟩ := has_slice hd
  obtain ⟨l1, rfl, hb1⟩ := of_all (fun p : UInt8 => (.z .u8 (p.toNat : Int) : D)) (fun p => True) l1 (fun d hd => by
      obtain ⟨y101, rfl, hy101⟩ := has_int (hl1 d hd)
      have hb := wf_u8 hy101
      refine ⟨UInt8.ofNat y101.toNat, ?_, trivial⟩
      have : ((UInt8.ofNat y101.toNat).toNat : Int) = y101 := by simp; omega
      rw [this])
  simp [Value.cells, encD] at hc
  obtain ⟨rfl, rfl, rfl⟩ := hc
  exact ⟨a0, c0, l1, by simp, Sl.conv (deep_sl hdeep) (fun _ => rfl)⟩
set_option maxRecDepth 100000 in
theorem open_ops {H : Type} {enc : TypeId × Value → H} {W : World} {v : Value} {d : DataW H} {p : List MemPlace} (hval : Value.okWide Try.prog W .any 0 49 v) (h : DataW.Trod enc Try.prog W 0 (fun _ => true) true 49 v d p) :
    ∃ (a1 : Option Addr) (c1 : Nat) (l1 : List (OpL)), v = .slice a1 l1.length c1 ∧ Sl W [whole W] encOpL 3 (.slice a1 l1.length c1) l1 ∧ (∀ p ∈ l1, (0 ≤ p.k ∧ p.k ≤ 255) ∧ (0 ≤ p.z ∧ p.z ≤ 255) ∧ (0 ≤ p.n ∧ p.n ≤ 255)) := by
  obtain ⟨a0, n0, c0, rfl⟩ := Go.WideShapes.okWide_slice Try.underlying49 hval
  obtain ⟨d, hd, hc, hdeep⟩ := open_Trod (s := .slice 3 (.row [.int .u8, .int .u8, .int .u8])) (by kernel_rfl) h
  obtain ⟨a1, c1, l1, rfl, hl1⟩ := has_slice hd
  obtain ⟨l1, rfl, hb1⟩ := of_all (fun p : OpL => (.row [.z .u8 p.k, .z .u8 p.z, .z .u8 p.n] : D)) (fun p => (0 ≤ p.k ∧ p.k ≤ 255) ∧ (0 ≤ p.z ∧ p.z ≤ 255) ∧ (0 ≤ p.n ∧ p.n ≤ 255)) l1 (fun d hd => by
      obtain ⟨dsy101, rfl, hdsy101⟩ := has_row (hl1 d hd)
      obtain ⟨ey101_0, ry101_0, rfl, qy101_0, hdsy101⟩ := has_cons hdsy101
      obtain ⟨ey101_1, ry101_1, rfl, qy101_1, hdsy101⟩ := has_cons hdsy101
      obtain ⟨ey101_2, ry101_2, rfl, qy101_2, hdsy101⟩ := has_cons hdsy101
      obtain rfl := has_nil hdsy101
      obtain ⟨y102, rfl, hy102⟩ := has_int qy101_0
      obtain ⟨y103, rfl, hy103⟩ := has_int qy101_1
      obtain ⟨y104, rfl, hy104⟩ := has_int qy101_2
      exact ⟨⟨y102, y103, y104⟩, rfl, ⟨wf_u8 hy102, wf_u8 hy103, wf_u8 hy104⟩⟩)
  simp [Value.cells, encD] at hc
  obtain ⟨rfl, rfl, rfl⟩ := hc
  exact ⟨a0, c0, l1, by simp, Sl.conv (deep_sl hdeep) (fun _ => rfl), hb1⟩
set_option maxRecDepth 100000 in
theorem open_scr {H : Type} {enc : TypeId × Value → H} {W : World} {v : Value} {d : DataW H} {p : List MemPlace} (hval : Value.okWide Try.prog W .any 0 66 v) (h : DataW.Trod enc Try.prog W 0 (fun _ => true) true 66 v d p) :
    ∃ (a1 : Option Addr) (c1 : Nat) (l1 : List (Int)), v = .slice a1 l1.length c1 ∧ Sl W [whole W] SL.encZ 1 (.slice a1 l1.length c1) l1 ∧ (∀ p ∈ l1, (-9223372036854775808 ≤ p ∧ p ≤ 9223372036854775807)) := by
  obtain ⟨a0, n0, c0, rfl⟩ := Go.WideShapes.okWide_slice Try.underlying66 hval
  obtain ⟨d, hd, hc, hdeep⟩ := open_Trod (s := .slice 1 (.int .i64)) (by kernel_rfl) h
  obtain ⟨a1, c1, l1, rfl, hl1⟩ := has_slice hd
  obtain ⟨l1, rfl, hb1⟩ := of_all (fun p : Int => (.z .i64 p : D)) (fun p => (-9223372036854775808 ≤ p ∧ p ≤ 9223372036854775807)) l1 (fun d hd => by
      obtain ⟨y101, rfl, hy101⟩ := has_int (hl1 d hd)
      exact ⟨y101, rfl, wf_i64 hy101⟩)
  simp [Value.cells, encD] at hc
  obtain ⟨rfl, rfl, rfl⟩ := hc
  exact ⟨a0, c0, l1, by simp, Sl.conv (deep_sl hdeep) (fun _ => rfl), hb1⟩
end Go.Proofs.Ytcbigmgakdanjaa
namespace Go.Proofs.Ytcbigmgakdanjaa
open Go Go.SL Go.RowKit Go.RdM Go.WalM
set_option linter.unusedVariables false
set_option linter.unusedSimpArgs false
theorem tA52wz : aggB Try.prog 52 4 = true := by kernel_rfl
theorem tF41_2wz : fieldB Try.prog 41 2 2 = true := by kernel_rfl
theorem tF52_0wz : fieldB Try.prog 52 0 0 = true := by kernel_rfl
theorem tF52_1wz : fieldB Try.prog 52 1 1 = true := by kernel_rfl
theorem tF96_2wz : fieldB Try.prog 96 2 2 = true := by kernel_rfl
theorem tL27_1wz : zerosB Try.prog 27 5 1 1 = some [Value.int .u8 0] := by kernel_rfl
theorem tMixwz : Try.prog.follows .mixedOrders = true := by kernel_rfl
theorem tO3wz : oneB Try.prog 3 = true := by kernel_rfl
theorem tO35wz : oneB Try.prog 35 = true := by kernel_rfl
theorem tO5wz : oneB Try.prog 5 = true := by kernel_rfl
theorem tO50wz : oneB Try.prog 50 = true := by kernel_rfl
theorem tP35wz : appB Try.prog 35 9 1 16 = true := by kernel_rfl
theorem tS35wz : sliceB Try.prog 35 9 1 = true := by kernel_rfl
theorem tS50wz : sliceB Try.prog 50 96 3 = true := by kernel_rfl
structure SegV where
  num : Nat
  grp : Nat
  q : Option Addr
  cq : Nat
  recs : List RdM.Bs
def encSegV (x : SegV) : List Value := [.int .i64 x.num, .int .i64 x.grp, .slice x.q x.recs.length x.cq]
theorem enc1SegV : Enc1 encSegV 3 := ⟨fun _ => rfl, fun a u h => by simp [encSegV] at h; rcases h with rfl | rfl | rfl <;> rfl⟩
def recsX (X : List SegV) : List RdM.Bs := (X.map SegV.recs).flatten
theorem recsX_snoc {X : List SegV} {i : Nat} {x : SegV} (h : X[i]? = some x) : recsX (X.take (i + 1)) = recsX (X.take i) ++ x.recs := by unfold recsX; rw [take_snoc h]; simp
theorem recsX_le (X : List SegV) (i : Nat) : (recsX (X.take i)).length ≤ (recsX X).length := by
  unfold recsX
  conv => rhs; rw [← List.take_append_drop i X, List.map_append, List.flatten_append]
  rw [List.length_append]; omega
def SlX (σ : World) (F : List Res) (X : List SegV) : Prop := ∀ x ∈ X, Sl σ F encT 1 (.slice x.q x.recs.length x.cq) x.recs
theorem SlX.app {σ : World} {F : List Res} {X : List SegV} (h : SlX σ F X) (R : List Res) : SlX σ (R ++ F) X := fun x hx => (h x hx).app R
set_option maxHeartbeats 1000000 in
set_option maxRecDepth 100000 in
theorem mall_any {σ : World} {F : List Res} {a p : Option Addr} {c cp k : Nat} {X : List SegV} {f : Int} {o : Bool} (lab : Nat) (hX : Sl σ F encSegV 3 (.slice a X.length c) X) (hR : SlX σ F X) (hT : (recsX X).length ≤ 1099511627776) :
    FnT Try.prog σ F 28 [.agg #[.slice a X.length c, .int .i64 f, .slice p k cp, .bool o]] [] (fun u ρ => ∃ a' c', u = .slice a' (recsX X).length c' ∧ ρ = [(lab, slW 9 encT 1 (.slice a' (recsX X).length c') (recsX X))]) := by
  refine fn_of 21 Try.func28 rfl Try.ntmps28 rfl ?_
  have hle := hX.i64
  refine w_seq (w_region (wl_op [] rfl rfl rfl rfl (op_box (T := 52) (l := 1) rfl) ?_))
  rintro _ _ ⟨b1, rfl, rfl⟩
  refine za rfl (wl_nil (st_tn (w_seq (w_region (za rfl (wl_nil (st_tn (w_seq (w_seq (w_region (za rfl (wl_nil (st_tn ?_)))))))))))))
  refine w_block (w_emp 3 (slO_nil 9 1) ?_)
  refine w_loopQ (X := List (List UInt8) × Option Addr × Nat × Nat) (fun z => z.2.2.2 ≤ X.length ∧ z.1 = recsX (X.take z.2.2.2)) (fun z => [(3, .slice (z.2.1) (z.1).length (z.2.2.1)), (4, .int .i64 (z.2.2.2))]) (fun z => [(3, slW 9 encT 1 (.slice (z.2.1) (z.1).length (z.2.2.1)) (z.1))]) (fun z => X.length - z.2.2.2) (([], none, 0, 0)) [(1, _)] [(1, _)] [3, 1] rfl (rfl) (.cons rfl (.cons rfl (.nil _))) (.cons rfl (.nil _)) (by
      try dsimp only
      exact ⟨Nat.zero_le _, by simp [recsX]⟩) ?_
  rintro ⟨out, a_out, c_out, i⟩ ⟨hi, hout⟩
  refine w_norm2 (by dsimp only [List.cons_append, List.nil_append]) (by dsimp only [List.cons_append, List.nil_append]) ?_
  try dsimp only at hi hout ⊢
  refine w_seq (w_seq (w_region (zm rfl (zd rfl (op_fieldAddr (off := 0) rfl tF52_0wz) (zd rfl (op_load1 rfl tO50wz (Ent.lab (l := 1) rfl (says_cel 0))) (zd rfl (op_lenT rfl tS50wz (Sl.ent (by first | exact Sl.app (by assumption) _ | exact Sl.app (Sl.app (by assumption) _) _))) ?_))))))
  refine zd rfl (op_lss rfl rfl) (wl_nil (st_tn (w_cond_d rfl (fun hc9 => ?_) (fun hc9 => ?_))))
  · -- c9.t
    obtain ⟨x, hx⟩ := getE (l := X) (i := i) (by omega)
    have hxm := List.mem_of_getElem? hx
    have hl1 := recsX_le X (i + 1)
    rw [recsX_snoc hx, List.length_append] at hl1
    have hol : out.length = (recsX (X.take i)).length := by rw [hout]
    refine w_skip (st_tn (w_seq (w_block (w_region (zm rfl (zd rfl (op_fieldAddr (off := 0) rfl tF52_0wz) (zd rfl (op_load1 rfl tO50wz (Ent.lab (l := 1) rfl (says_cel 0))) (zm rfl (zd rfl (op_idx rfl rfl tS50wz (Sl.ent (by first | exact Sl.app (by assumption) _ | exact Sl.app (Sl.app (by assumption) _) _)) (by omega)) ?_)))))))))
    refine zd rfl (op_fieldAddr (off := 2) rfl tF96_2wz) (zd rfl (op_ldxf rfl tO35wz (by first | exact Sl.app (by assumption) _ | exact Sl.app (Sl.app (by assumption) _) _) (by assumption) (by rfl)) ?_)
    refine wl_op [3] rfl rfl rfl rfl (op_append (lab := 3) (lab' := 19) rfl rfl tP35wz enc1T (Sl.app (hR x hxm) _) (by omega) (by omega)) ?_
    rintro _ _ ⟨a19, c19, rfl, rfl⟩
    refine za rfl (wl_nil (st_bn (st_tn (w_region (zm rfl (zd rfl (op_add' rfl rfl (by omega)) ?_))))))
    refine za rfl (wl_nil ?_)
    refine st_roundQ (x := (out, a_out, c_out, i)) ((out ++ x.recs, _, _, i + 1)) [19, 1] rfl (rfl) (.cons rfl (.cons rfl (.nil _))) (.cons rfl (.nil _)) (by
        try dsimp only
        exact ⟨by omega, by rw [hout, recsX_snoc hx]⟩) (by
        try dsimp only
        omega)
  · -- c9.f
    refine w_exit (st_te ?_)
    refine st_te ?_
    refine st_be (st_tn (w_seq (w_region (zm rfl (za rfl (wl_nil (st_tn (w_ret (st_ret (vs := [_]) [3] Try.results28 ⟨rfl, trivial⟩ rfl ?_)))))))))
    refine ⟨[(lab, _)], rfl, ?_⟩
    have hfin : out = recsX X := by rw [hout, take_all (by omega)]
    rw [hfin]; exact ⟨_, _, rfl, rfl⟩
set_option maxHeartbeats 400000 in
set_option maxRecDepth 100000 in
theorem mlast_any {σ : World} {F : List Res} {a p : Option Addr} {c cp k : Nat} {X : List SegV} {f : Int} {o : Bool} (hX : Sl σ F encSegV 3 (.slice a X.length c) X) (hR : SlX σ F X) (hT : (recsX X).length ≤ 1099511627776) (hf : 0 ≤ f ∧ f ≤ 1099511627776) :
    FnT Try.prog σ F 29 [.agg #[.slice a X.length c, .int .i64 f, .slice p k cp, .bool o]] [] (fun u ρ => u = .int .i64 (f + (recsX X).length - 1) ∧ ρ = []) := by
  refine fn_of 10 Try.func29 rfl Try.ntmps29 rfl ?_
  refine w_seq (w_region (wl_op [] rfl rfl rfl rfl (op_box (T := 52) (l := 1) rfl) ?_))
  rintro _ _ ⟨b1, rfl, rfl⟩
  refine za rfl (wl_nil (st_tn (w_seq ?_)))
  refine w_drawW (fun β => [⟨3, [], [], [], noW (_), false, [], []⟩, ⟨4, [0], [], [], noW (_), false, [], []⟩, ⟨5, [], [], [], noW (_), false, [], []⟩, ⟨6, [2], [], [], fun w => DetW _ _, false, [], []⟩, ⟨7, [3], [], [], noW (_), false, [], []⟩]) [] [1] [⟨3, [], [], false, [], []⟩, ⟨4, [0], [], false, [], []⟩, ⟨5, [], [], false, [], []⟩, ⟨6, [2], [], false, [], []⟩, ⟨7, [3], [], false, [], []⟩] [[], [], [], [], [3]] [[], [], [], [], []] tMixwz (fun _ => by rfl) (fun _ => by rfl) (by kernel_rfl) (by kernel_rfl) (by rfl) (by rfl)
      (fun β => ⟨.p rfl (by intro X; exact op_fieldAddr (off := 1) rfl tF52_1wz),
      ⟨.p rfl (by intro X; rintro _ _ ⟨rfl, rfl⟩; exact op_load1 rfl tO3wz (Ent.lab (l := 1) rfl (says_cel 1))),
      ⟨.p rfl (by intro X; exact op_loadA rfl tA52wz (Ent.lab (l := 1) rfl (says_cel 0)) (Nat.le_of_ble_eq_true rfl)),
      ⟨.px rfl (by intro X; rintro _ _ ⟨rfl, rfl⟩; refine OpT.mono (op_fn Try.func28 rfl rfl rfl (mall_any 6 (Sl.app (Sl.app hX _) _) (SlX.app (SlX.app hR _) _) hT)) ?_; rintro _ _ ⟨a6, c6, rfl, rfl⟩; obtain ⟨w, rfl, rfl⟩ : ∃ w : Wt, w.a = a6 ∧ w.c = c6 := ⟨{ a := a6, c := c6 }, rfl, rfl⟩; exact ⟨w, rfl, rfl⟩),
      ⟨.p rfl (by intro X; rintro _ _ ⟨rfl, rfl⟩; exact op_lenT rfl tS35wz (Sl.ent (Sl.lab 6 rfl (by unfold maxLen; omega)))),
      trivial⟩⟩⟩⟩⟩)
      (fun β β' => ⟨fun _ => by rfl, ⟨fun _ => by rfl, ⟨fun _ => by rfl, ⟨fun _ => by rfl, ⟨fun h => by first | rfl | (simp only [h 3 (by decide)]), trivial⟩⟩⟩⟩⟩) ?_
  intro β
  rintro _ _ ⟨rfl, rfl⟩ _ _ ⟨rfl, rfl⟩ _ _ ⟨rfl, rfl⟩ _ _ ⟨rfl, rfl⟩ _ _ ⟨rfl, rfl⟩
  generalize (β 3).a = a6
  generalize (β 3).c = c6
  refine wl_norm (e' := [(4, _), (7, _)]) (.cons rfl (.cons rfl (.nil _))) (by dsimp only [cond_false, cond_true, List.nil_append, List.cons_append]) ?_
  refine zd rfl (op_add' rfl rfl (by omega)) ?_
  refine zd rfl (op_sub' rfl rfl (by omega)) ?_
  refine za rfl (wl_nil (st_tn (w_ret (st_ret (vs := [_]) [] Try.results29 ⟨rfl, trivial⟩ rfl ?_))))
  refine ⟨_, rfl, ?_⟩
  exact ⟨rfl, rfl⟩
set_option maxHeartbeats 1000000 in
set_option maxRecDepth 100000 in
theorem mname_any {σ : World} {F : List Res} (nm : RdM.Bs) (n : Nat) (hn : n ≤ 999999) (hnm : nm.length ≤ 64) : FnT Try.prog σ F 57 [.string (str nm), .int .i64 n] [] (fun u ρ => u = .string (str (fileN nm n)) ∧ ρ = []) := by
  refine fn_of 25 Try.func57 rfl Try.ntmps57 rfl ?_
  refine w_seq (w_region (za rfl (wl_nil (st_tn (w_seq (w_region (za rfl (wl_nil (st_tn (w_seq (w_seq (w_region (za rfl ?_)))))))))))))
  refine wl_nil (st_tn (w_block ?_))
  refine w_loopQ (X := Nat × List UInt8 × Nat) (fun z => z.2.2 ≤ 6 ∧ z.1 = n / 10 ^ z.2.2 ∧ z.2.1 = dig z.2.2 n) (fun z => [(1, .int .i64 (z.1)), (5, .string (str (z.2.1))), (6, .int .i64 (z.2.2))]) (fun _ => []) (fun z => 6 - z.2.2) ((n, [], 0)) [(0, _)] [] [] rfl (rfl) (.cons rfl (.cons rfl (.cons rfl (.nil _)))) (.cons rfl (.nil _)) (by
      try dsimp only
      exact ⟨Nat.zero_le _, by simp, rfl⟩) ?_
  rintro ⟨k, out, i⟩ ⟨hi, hk, hout⟩
  refine w_norm2 (by dsimp only [List.cons_append, List.nil_append]) (by dsimp only [List.cons_append, List.nil_append]) ?_
  try dsimp only at hi hk hout ⊢
  refine w_seq (w_seq (w_region (zm rfl (zd rfl (op_lss rfl rfl) (wl_nil (st_tn (w_cond_d rfl (fun hc8 => ?_) (fun hc8 => ?_))))))))
  · -- c8.t
    have hkb : k ≤ 999999 := by rw [hk]; exact Nat.le_trans (Nat.div_le_self _ _) hn
    have hol : out.length ≤ 6 := by rw [hout, len_dig]; exact hi
    refine w_skip (st_tn (w_seq (w_block (w_seq (w_region (zm rfl (zd rfl (op_remN rfl rfl (by omega) (by omega)) ?_)))))))
    refine zd rfl (op_add' rfl rfl (by omega)) ?_
    refine zd rfl (op_val (v' := .int .u8 ((UInt8.ofNat (48 + n / 10 ^ i % 10)).toNat : Int)) (by rw [show (48 + (k : Int) % 10).toNat = 48 + n / 10 ^ i % 10 by rw [← hk]; omega]) (op_convU rfl (by rw [Try.underlying3]; rfl) Try.underlying5 (by omega))) ?_
    refine wl_op [] rfl rfl rfl rfl (op_buildSlice (enc := encU) (l := [UInt8.ofNat (48 + n / 10 ^ i % 10)]) (lab := 15) tL27_1wz rfl rfl (fun _ => rfl) rfl) ?_
    rintro _ _ ⟨a15, c15, rfl, rfl⟩
    refine zd rfl (op_bytesStr rfl Try.underlying27 Try.underlying5 Try.underlying9 (Sl.lab 15 rfl (by simp [maxLen]))) ?_
    refine zm rfl (zd rfl (op_catBs rfl rfl (by simp; omega)) ?_)
    refine za rfl (wl_nil (st_tn (w_region (zm rfl (zd rfl (op_quoN rfl rfl (by omega) (by omega) (by omega)) ?_)))))
    refine za rfl (wl_nil (st_bn (st_tn (w_region (zm rfl (zd rfl (op_add' rfl rfl (by omega)) ?_))))))
    refine za rfl (wl_nil ?_)
    refine st_roundQ (x := (k, out, i)) ((k / 10, UInt8.ofNat (48 + n / 10 ^ i % 10) :: out, i + 1)) [] rfl (rfl) (.cons rfl (.cons rfl (.cons rfl (.nil _)))) (.cons rfl (.nil _)) (by
        try dsimp only
        exact ⟨by omega, by rw [hk, Nat.div_div_eq_div_mul, Nat.pow_succ], by rw [hout, dig_high]⟩) (by
        try dsimp only
        omega)
  · -- c8.f
    refine w_exit (st_te ?_)
    refine st_te ?_
    refine st_be (st_tn (w_seq (w_region (zm rfl (zd rfl (op_catBs rfl rfl (by simp; omega)) ?_)))))
    refine zm rfl (zd rfl (op_catBs rfl rfl (by rw [hout, len_dig]; simp; omega)) ?_)
    refine za rfl (wl_nil (st_tn (w_ret (st_ret (vs := [_]) [] Try.results57 ⟨rfl, trivial⟩ rfl ?_))))
    refine ⟨_, rfl, ?_⟩
    have hfin : out = dig 6 n := by rw [hout, show i = 6 by omega]
    rw [hfin]; exact ⟨rfl, rfl⟩
set_option maxHeartbeats 400000 in
set_option maxRecDepth 100000 in
theorem mnumber_any {σ : World} {F : List Res} {a p : Option Addr} {c cp k m : Nat} {f : Int} {o : Bool} (x : OpL) (hx : 0 ≤ x.n ∧ x.n ≤ 255) (hf : 0 ≤ f ∧ f ≤ 1099511627776) :
    FnT Try.prog σ F 41 [.agg (encOpL x).toArray, .agg #[.slice a m c, .int .i64 f, .slice p k cp, .bool o]] [] (fun u ρ => u = .int .i64 (f + x.n % 12 - 2) ∧ ρ = []) := by
  refine fn_of 13 Try.func41 rfl Try.ntmps41 rfl ?_
  refine w_seq (w_region (wl_op [] rfl rfl rfl rfl (op_box (T := 41) (l := 2) rfl) ?_))
  rintro _ _ ⟨b2, rfl, rfl⟩
  refine wl_op [] rfl rfl rfl rfl (op_box (T := 52) (l := 3) rfl) ?_
  rintro _ _ ⟨b3, rfl, rfl⟩
  refine za rfl (wl_nil (st_tn (w_seq (w_region (zd rfl (op_fieldAddr (off := 1) rfl tF52_1wz) (zd rfl (op_load1 rfl tO3wz (Ent.lab (l := 3) rfl (says_cel 1))) (zd rfl (op_fieldAddr (off := 2) rfl tF41_2wz) (zd rfl (op_load1 rfl tO5wz (Ent.lab (l := 2) rfl (says_cel 2))) (zd rfl (op_remN rfl rfl (by omega) (by omega)) ?_)))))))))
  refine zd rfl (op_convI64 rfl (by rw [Try.underlying5]; rfl) Try.underlying3 (by omega)) ?_
  refine zd rfl (op_add' rfl rfl (by omega)) ?_
  refine zd rfl (op_sub' rfl rfl (by omega)) ?_
  refine za rfl (wl_nil (st_tn (w_ret (st_ret (vs := [_]) [] Try.results41 ⟨rfl, trivial⟩ rfl ?_))))
  refine ⟨_, rfl, ?_⟩
  exact ⟨rfl, rfl⟩
end Go.Proofs.Ytcbigmgakdanjaa
namespace Go.Proofs.Ytcbigmgakdanjaa
open Go Go.SL Go.RowKit Go.RdM Go.WalM
set_option linter.unusedVariables false
set_option linter.unusedSimpArgs false
theorem tA52xa : aggB Try.prog 52 4 = true := by kernel_rfl
theorem tB52xa : placesB Try.prog 52 = some ([(0, 1), (1, 1), (2, 1), (3, 1)], [Value.slice none 0 0, Value.int .i64 0, Value.slice none 0 0, Value.bool false]) := by kernel_rfl
theorem tF52_0xa : fieldB Try.prog 52 0 0 = true := by kernel_rfl
theorem tF52_1xa : fieldB Try.prog 52 1 1 = true := by kernel_rfl
theorem tF52_2xa : fieldB Try.prog 52 2 2 = true := by kernel_rfl
theorem tF52_3xa : fieldB Try.prog 52 3 3 = true := by kernel_rfl
theorem tF96_2xa : fieldB Try.prog 96 2 2 = true := by kernel_rfl
theorem tMixxa : Try.prog.follows .mixedOrders = true := by kernel_rfl
theorem tN52xa : (Try.prog.info? 52).bind (·.zero) = some (Value.agg #[Value.slice none 0 0, Value.int .i64 0, Value.slice none 0 0, Value.bool false]) := by kernel_rfl
theorem tO3xa : oneB Try.prog 3 = true := by kernel_rfl
theorem tO35xa : oneB Try.prog 35 = true := by kernel_rfl
theorem tO50xa : oneB Try.prog 50 = true := by kernel_rfl
theorem tS35xa : sliceB Try.prog 35 9 1 = true := by kernel_rfl
theorem tS50xa : sliceB Try.prog 50 96 3 = true := by kernel_rfl
theorem tZ3xa : (Try.prog.info? 3).map (·.size) = some 1 := by kernel_rfl
theorem tZ35xa : (Try.prog.info? 35).map (·.size) = some 1 := by kernel_rfl
theorem tZ4xa : (Try.prog.info? 4).map (·.size) = some 1 := by kernel_rfl
theorem tZ50xa : (Try.prog.info? 50).map (·.size) = some 1 := by kernel_rfl
theorem tZ52xa : (Try.prog.info? 52).map (·.size) = some 4 := by kernel_rfl
set_option maxHeartbeats 400000 in
set_option maxRecDepth 100000 in
theorem mbegin_any {σ : World} {F : List Res} : FnT Try.prog σ F 26 [] [] (fun u ρ => u = .agg #[.slice none 0 0, .int .i64 1, .slice none 0 0, .bool true] ∧ ρ = []) := by
  refine fn_of 2 Try.func26 rfl Try.ntmps26 rfl ?_
  refine w_seq (w_region (wl_op [] rfl rfl rfl rfl (op_alloc (l := 0) tN52xa) ?_))
  rintro _ _ ⟨b0, rfl, rfl⟩
  refine wl_nil (st_tn (w_seq (w_region (zd rfl (op_build tB52xa rfl rfl) (wl_op0 [0] rfl rfl rfl (op_store rfl rfl tZ52xa (by rfl) (by rfl) (by exact Nat.le_of_ble_eq_true rfl)) ?_)))))
  rintro _ _ ⟨rfl, rfl⟩
  refine wl_nil (st_tn (w_ret (st_ret (vs := [_]) [] Try.results26 ⟨⟨_, rfl, Ent.mono (Ent.lab (l := 0) rfl (says_cel 0)) (fun _ h => run_load_agg tA52xa h (Nat.le_of_ble_eq_true rfl))⟩, trivial⟩ rfl ?_)))
  refine ⟨_, rfl, ?_⟩
  exact ⟨rfl, rfl⟩
set_option maxHeartbeats 400000 in
set_option maxRecDepth 100000 in
theorem mopen_any {σ : World} {F : List Res} {a p : Option Addr} {c cp k m : Nat} {f : Int} {o : Bool} :
    FnT Try.prog σ F 39 [.agg #[.slice a m c, .int .i64 f, .slice p k cp, .bool o]] [] (fun u ρ => u = .agg #[.slice a m c, .int .i64 f, .slice none 0 0, .bool true] ∧ ρ = []) := by
  refine fn_of 6 Try.func39 rfl Try.ntmps39 rfl ?_
  refine w_seq (w_region (wl_op [] rfl rfl rfl rfl (op_box (T := 52) (l := 1) rfl) ?_))
  rintro _ _ ⟨b1, rfl, rfl⟩
  refine wl_op [] rfl rfl rfl rfl (op_alloc (l := 2) tN52xa) ?_
  rintro _ _ ⟨b2, rfl, rfl⟩
  refine wl_nil (st_tn (w_seq (w_region (zd rfl (op_fieldAddr (off := 2) rfl tF52_2xa) (wl_op0 [1] rfl rfl rfl (op_store rfl rfl tZ35xa (by rfl) (by rfl) (by exact Nat.le_of_ble_eq_true rfl)) ?_)))))
  rintro _ _ ⟨rfl, rfl⟩
  refine zd rfl (op_fieldAddr (off := 3) rfl tF52_3xa) (wl_op0 [1] rfl rfl rfl (op_store rfl rfl tZ4xa (by rfl) (by rfl) (by exact Nat.le_of_ble_eq_true rfl)) ?_)
  rintro _ _ ⟨rfl, rfl⟩
  refine wl_nil (st_tn (w_seq (w_region (zd rfl (op_loadA rfl tA52xa (Ent.lab (l := 1) rfl (says_cel 0)) (Nat.le_of_ble_eq_true rfl)) (wl_op0 [2] rfl rfl rfl (op_store rfl rfl tZ52xa (by rfl) (by rfl) (by exact Nat.le_of_ble_eq_true rfl)) ?_)))))
  rintro _ _ ⟨rfl, rfl⟩
  refine wl_nil (st_tn (w_ret (st_ret (vs := [_]) [] Try.results39 ⟨⟨_, rfl, Ent.mono (Ent.lab (l := 2) rfl (says_cel 0)) (fun _ h => run_load_agg tA52xa h (Nat.le_of_ble_eq_true rfl))⟩, trivial⟩ rfl ?_)))
  refine ⟨_, rfl, ?_⟩
  exact ⟨rfl, rfl⟩
def subJ (a : Option Addr) (c : Nat) : Nat → Option Addr × Nat
  | 0 => (a, c)
  | j + 1 => (SL.sub (subJ a c j).1 (subJ a c j).2 1 3, (subJ a c j).2 - 1)
theorem sl_subJ {σ : World} {F : List Res} {a : Option Addr} {c : Nat} {X : List SegV} (h : Sl σ F encSegV 3 (.slice a X.length c) X) : ∀ j, j ≤ X.length → Sl σ F encSegV 3 (.slice (subJ a c j).1 (X.drop j).length (subJ a c j).2) (X.drop j)
  | 0, _ => by simpa [subJ] using h
  | j + 1, hj => by
    have ih := sl_subJ h j (by omega)
    have h1 := Sl.sub ih (lo := 1) (hi := (X.drop j).length) (by rw [List.length_drop]; omega) (Nat.le_refl _)
    rw [List.take_length, List.drop_drop] at h1
    have h2 : (X.drop j).length - 1 = (X.drop (j + 1)).length := by rw [List.length_drop, List.length_drop]; omega
    rw [h2] at h1
    exact h1
def trJ : Nat → List SegV → Int → Nat → Nat
  | f, x :: y :: l, n, k + 1 => if (f : Int) + x.recs.length - 1 ≤ n then trJ (f + x.recs.length) (y :: l) n k + 1 else 0
  | _, _, _, _ => 0
theorem trJ_lt : ∀ (k f : Nat) (X : List SegV) (n : Int), trJ f X n k ≤ X.length ∧ (X ≠ [] → trJ f X n k < X.length) ∧ trJ f X n k ≤ k
  | 0, f, X, n => by cases X <;> simp [trJ]
  | k + 1, f, [], n => by simp [trJ]
  | k + 1, f, [x], n => by simp [trJ]
  | k + 1, f, x :: y :: l, n => by
    rw [trJ]
    have := trJ_lt k (f + x.recs.length) (y :: l) n
    have h2 := this.2.1 (by simp)
    simp only [List.length_cons] at *
    split <;> exact ⟨by omega, fun _ => by omega, by omega⟩
theorem recsX_cons (x : SegV) (X : List SegV) : recsX (x :: X) = x.recs ++ recsX X := by unfold recsX; simp
theorem trJ_step {f : Nat} {n : Int} : ∀ {i k : Nat} {X : List SegV}, i < k → 1 < (X.drop i).length → i ≤ trJ f X n k → (∀ x, X[i]? = some x → ((f + (recsX (X.take i)).length : Nat) : Int) + x.recs.length - 1 ≤ n → i + 1 ≤ trJ f X n k) ∧ (∀ x, X[i]? = some x → ¬ ((f + (recsX (X.take i)).length : Nat) : Int) + x.recs.length - 1 ≤ n → trJ f X n k = i)
  | 0, k + 1, [], _, h, _ => by simp at h
  | 0, k + 1, [x], _, h, _ => by simp at h
  | 0, k + 1, x :: y :: l, _, _, _ => by
    rw [trJ]
    refine ⟨fun z hz hn => ?_, fun z hz hn => ?_⟩
    · simp at hz; subst hz
      rw [if_pos (by simpa [recsX] using hn)]; omega
    · simp at hz; subst hz
      rw [if_neg (by simpa [recsX] using hn)]
  | i + 1, k + 1, [], _, h, _ => by simp at h
  | i + 1, k + 1, [x], _, h, _ => by simp at h
  | i + 1, k + 1, x :: y :: l, hk, h, hi => by
    rw [trJ] at hi ⊢
    by_cases hx : (f : Int) + x.recs.length - 1 ≤ n
    · rw [if_pos hx] at hi ⊢
      have ih := trJ_step (f := f + x.recs.length) (n := n) (i := i) (k := k) (X := y :: l) (by omega) (by simpa using h) (by omega)
      refine ⟨fun z hz hn => ?_, fun z hz hn => ?_⟩
      · have := ih.1 z (by simpa using hz) (by rw [List.take_succ_cons, recsX_cons, List.length_append] at hn; omega)
        omega
      · have := ih.2 z (by simpa using hz) (by rw [List.take_succ_cons, recsX_cons, List.length_append] at hn; omega)
        omega
    · rw [if_neg hx] at hi; omega
set_option maxHeartbeats 2000000 in
set_option maxRecDepth 100000 in
theorem mtrunc_any {σ : World} {F : List Res} {a p : Option Addr} {c cp k : Nat} {Y : List SegV} {f : Nat} {o : Bool} (n : Int) (most : Nat) (hn : -9223372036854775808 ≤ n ∧ n ≤ 9223372036854775807) (hm : most ≤ 1099511627776) (hX : Sl σ F encSegV 3 (.slice a Y.length c) Y) (hR : SlX σ F Y) (hT : f + (recsX Y).length ≤ 1099511627776) :
    FnT Try.prog σ F 40 [.agg #[.slice a Y.length c, .int .i64 f, .slice p k cp, .bool o], .int .i64 n, .int .i64 most] [] (fun u ρ => u = .agg #[.slice (subJ a c (trJ f Y n most)).1 (Y.drop (trJ f Y n most)).length (subJ a c (trJ f Y n most)).2, .int .i64 ((f + (recsX (Y.take (trJ f Y n most))).length : Nat) : Int), .slice p k cp, .bool o] ∧ ρ = []) := by
  refine fn_of 48 Try.func40 rfl Try.ntmps40 rfl ?_
  have htj := trJ_lt most f Y n
  have hle := hX.i64
  refine w_seq (w_region (wl_op [] rfl rfl rfl rfl (op_box (T := 52) (l := 3) rfl) ?_))
  rintro _ _ ⟨b3, rfl, rfl⟩
  refine wl_op [] rfl rfl rfl rfl (op_alloc (l := 6) tN52xa) ?_
  rintro _ _ ⟨b6, rfl, rfl⟩
  refine wl_nil (st_tn (w_seq (w_seq (w_region (za rfl (wl_nil (st_tn (w_block ?_))))))))
  refine w_loopQ (X := Nat) (fun z => z ≤ trJ f Y n most) (fun z => [(7, .int .i64 (z))]) (fun z => [(3, cel b3 [.slice (subJ a c (z)).1 (Y.drop (z)).length (subJ a c (z)).2, .int .i64 ((f + (recsX (Y.take (z))).length : Nat) : Int), .slice p k cp, .bool o] 52)]) (fun z => trJ f Y n most - z) (0) [(1, _), (2, _), (3, _), (6, _)] [(6, _)] [3, 6] rfl (rfl) (.cons rfl (.nil _)) (.cons rfl (.cons rfl (.cons rfl (.cons rfl (.nil _))))) (by
      try dsimp only
      exact Nat.zero_le _) ?_
  rintro i hi
  refine w_norm2 (by dsimp only [List.cons_append, List.nil_append]) (by dsimp only [List.cons_append, List.nil_append]) ?_
  try dsimp only at hi ⊢
  refine w_seq (w_seq ?_)
  have hsub := sl_subJ hX i (by omega)
  have hdl : (Y.drop i).length = Y.length - i := List.length_drop ..
  have hrle := recsX_le Y i
  by_cases h1 : i < most
  · -- h1+
    by_cases h2 : 1 < (Y.drop i).length
    · -- h2+
      obtain ⟨x, hx⟩ := getE (l := Y) (i := i) (by omega)
      have hxd : (Y.drop i)[0]? = some x := by rw [List.getElem?_drop, Nat.add_zero]; exact hx
      have hhd : (Y.drop i).head? = some x := by rw [List.head?_eq_getElem?]; exact hxd
      have hxm := List.mem_of_getElem? hx
      have hgo := trJ_step (f := f) (n := n) (i := i) (k := most) (X := Y) h1 h2 (by assumption)
      have hl1 := recsX_le Y (i + 1)
      rw [recsX_snoc hx, List.length_append] at hl1
      have hxr := hR x hxm
      by_cases h3 : ((f + (recsX (Y.take i)).length : Nat) : Int) + ((Y.drop i).head?.map fun x => (x.recs.length : Int)).getD 0 - 1 ≤ n
      · -- h3+
        rw [hhd] at h3
        have h3 : ((f + (recsX (Y.take i)).length : Nat) : Int) + x.recs.length - 1 ≤ n := h3
        refine w_draw (D := [⟨8, [], [], [], _, false, [], []⟩, ⟨9, [], [], [], _, false, [], []⟩, ⟨10, [0, 1], [], [], _, false, [], []⟩, ⟨11, [2], [], [], _, false, [], []⟩, ⟨12, [], [], [], _, false, [], []⟩, ⟨13, [4], [], [], _, false, [], []⟩, ⟨14, [5], [], [], _, false, [], []⟩, ⟨15, [6], [], [], _, false, [], []⟩, ⟨16, [3, 7], [], [], _, false, [], []⟩, ⟨17, [8], [], [], _, false, [], []⟩, ⟨18, [], [], [], _, false, [], []⟩, ⟨19, [10], [], [], _, false, [], []⟩, ⟨20, [], [], [], _, false, [], []⟩, ⟨21, [12], [], [], _, false, [], []⟩, ⟨22, [13], [], [], _, false, [], []⟩, ⟨23, [14], [], [], _, false, [], []⟩, ⟨24, [15], [], [], _, false, [], []⟩, ⟨25, [16], [], [], _, false, [], []⟩, ⟨26, [11, 17], [], [], _, false, [], []⟩, ⟨27, [18], [], [], _, false, [], []⟩, ⟨28, [], [], [], _, false, [], []⟩, ⟨29, [19, 20], [], [], _, false, [], []⟩, ⟨30, [9, 21], [], [], _, false, [], []⟩]) [] [7, 2, 3, 1] [⟨8, [], [], false, [], []⟩, ⟨9, [], [], false, [], []⟩, ⟨10, [0, 1], [], false, [], []⟩, ⟨11, [2], [], false, [], []⟩, ⟨12, [], [], false, [], []⟩, ⟨13, [4], [], false, [], []⟩, ⟨14, [5], [], false, [], []⟩, ⟨15, [6], [], false, [], []⟩, ⟨16, [3, 7], [], false, [], []⟩, ⟨17, [8], [], false, [], []⟩, ⟨18, [], [], false, [], []⟩, ⟨19, [10], [], false, [], []⟩, ⟨20, [], [], false, [], []⟩, ⟨21, [12], [], false, [], []⟩, ⟨22, [13], [], false, [], []⟩, ⟨23, [14], [], false, [], []⟩, ⟨24, [15], [], false, [], []⟩, ⟨25, [16], [], false, [], []⟩, ⟨26, [11, 17], [], false, [], []⟩, ⟨27, [18], [], false, [], []⟩, ⟨28, [], [], false, [], []⟩, ⟨29, [19, 20], [], false, [], []⟩, ⟨30, [9, 21], [], false, [], []⟩] tMixxa (by rfl) (by kernel_rfl) (by rfl) (by rfl)
            ⟨.plain rfl (by intro X; exact op_move rfl),
            ⟨.plain rfl (by intro X; exact op_move rfl),
            ⟨.plain rfl (by intro X; rintro _ _ ⟨rfl, rfl⟩ _ _ ⟨rfl, rfl⟩; exact op_val (v' := .bool true) (by rw [decide_eq_true (by omega)]) (op_lss rfl rfl)),
            ⟨.plain rfl (by intro X; rintro _ _ ⟨rfl, rfl⟩; exact op_move rfl),
            ⟨.wanted rfl rfl rfl (by rintro _ _ ⟨rfl, rfl⟩; rfl) (by intro X; exact op_fieldAddr (off := 0) rfl tF52_0xa),
            ⟨.wanted rfl rfl rfl (by rintro _ _ ⟨rfl, rfl⟩; rfl) (by intro X; rintro _ _ ⟨rfl, rfl⟩; exact op_load1 rfl tO50xa (Ent.lab (l := 3) rfl (says_cel 0))),
            ⟨.wanted rfl rfl rfl (by rintro _ _ ⟨rfl, rfl⟩; rfl) (by intro X; rintro _ _ ⟨rfl, rfl⟩; exact op_lenT rfl tS50xa (Sl.ent (by first | exact Sl.app (by assumption) _ | exact Sl.app (Sl.app (by assumption) _) _))),
            ⟨.wanted rfl rfl rfl (by rintro _ _ ⟨rfl, rfl⟩; rfl) (by intro X; rintro _ _ ⟨rfl, rfl⟩; exact op_val (v' := .bool true) (by rw [decide_eq_true (by omega)]) (op_gtr rfl rfl)),
            ⟨.plain rfl (by intro X; rintro _ _ ⟨rfl, rfl⟩ _ _ ⟨rfl, rfl⟩; exact op_pick_t rfl rfl),
            ⟨.plain rfl (by intro X; rintro _ _ ⟨rfl, rfl⟩; exact op_move rfl),
            ⟨.wanted rfl rfl rfl (by rintro _ _ ⟨rfl, rfl⟩; rfl) (by intro X; exact op_fieldAddr (off := 1) rfl tF52_1xa),
            ⟨.wanted rfl rfl rfl (by rintro _ _ ⟨rfl, rfl⟩; rfl) (by intro X; rintro _ _ ⟨rfl, rfl⟩; exact op_load1 rfl tO3xa (Ent.lab (l := 3) rfl (says_cel 1))),
            ⟨.wanted rfl rfl rfl (by rintro _ _ ⟨rfl, rfl⟩; rfl) (by intro X; exact op_fieldAddr (off := 0) rfl tF52_0xa),
            ⟨.wanted rfl rfl rfl (by rintro _ _ ⟨rfl, rfl⟩; rfl) (by intro X; rintro _ _ ⟨rfl, rfl⟩; exact op_load1 rfl tO50xa (Ent.lab (l := 3) rfl (says_cel 0))),
            ⟨.wanted rfl rfl rfl (by rintro _ _ ⟨rfl, rfl⟩; rfl) (by intro X; rintro _ _ ⟨rfl, rfl⟩; exact op_idx (i := 0) rfl rfl tS50xa (Sl.ent (Sl.app (Sl.app hsub X) _)) (by omega)),
            ⟨.wanted rfl rfl rfl (by rintro _ _ ⟨rfl, rfl⟩; rfl) (by intro X; rintro _ _ ⟨rfl, rfl⟩; exact op_fieldAddr (off := 2) rfl tF96_2xa),
            ⟨.wanted rfl rfl rfl (by rintro _ _ ⟨rfl, rfl⟩; rfl) (by intro X; rintro _ _ ⟨rfl, rfl⟩; exact op_ldxf rfl tO35xa (by first | exact Sl.app (by assumption) _ | exact Sl.app (Sl.app (by assumption) _) _) (by assumption) (by rfl)),
            ⟨.wanted rfl rfl rfl (by rintro _ _ ⟨rfl, rfl⟩; rfl) (by intro X; rintro _ _ ⟨rfl, rfl⟩; exact op_lenT rfl tS35xa (Sl.ent (by first | exact Sl.app (by assumption) _ | exact Sl.app (Sl.app (by assumption) _) _))),
            ⟨.wanted rfl rfl rfl (by rintro _ _ ⟨rfl, rfl⟩; rfl) (by intro X; rintro _ _ ⟨rfl, rfl⟩ _ _ ⟨rfl, rfl⟩; exact op_add' rfl rfl (by omega)),
            ⟨.wanted rfl rfl rfl (by rintro _ _ ⟨rfl, rfl⟩; rfl) (by intro X; rintro _ _ ⟨rfl, rfl⟩; exact op_sub' rfl rfl (by omega)),
            ⟨.wanted rfl rfl rfl (by rintro _ _ ⟨rfl, rfl⟩; rfl) (by intro X; exact op_move rfl),
            ⟨.wanted rfl rfl rfl (by rintro _ _ ⟨rfl, rfl⟩; rfl) (by intro X; rintro _ _ ⟨rfl, rfl⟩ _ _ ⟨rfl, rfl⟩; exact op_val (v' := .bool true) (by rw [decide_eq_true (by omega)]) (op_leq rfl rfl)),
            ⟨.plain rfl (by intro X; rintro _ _ ⟨rfl, rfl⟩ _ _ ⟨rfl, rfl⟩; exact op_pick_t rfl rfl),
            trivial⟩⟩⟩⟩⟩⟩⟩⟩⟩⟩⟩⟩⟩⟩⟩⟩⟩⟩⟩⟩⟩⟩⟩ ?_
        rintro _ _ ⟨rfl, rfl⟩ _ _ ⟨rfl, rfl⟩ _ _ ⟨rfl, rfl⟩ _ _ ⟨rfl, rfl⟩ _ _ ⟨rfl, rfl⟩ _ _ ⟨rfl, rfl⟩ _ _ ⟨rfl, rfl⟩ _ _ ⟨rfl, rfl⟩ _ _ ⟨rfl, rfl⟩ _ _ ⟨rfl, rfl⟩ _ _ ⟨rfl, rfl⟩ _ _ ⟨rfl, rfl⟩ _ _ ⟨rfl, rfl⟩ _ _ ⟨rfl, rfl⟩ _ _ ⟨rfl, rfl⟩ _ _ ⟨rfl, rfl⟩ _ _ ⟨rfl, rfl⟩ _ _ ⟨rfl, rfl⟩ _ _ ⟨rfl, rfl⟩ _ _ ⟨rfl, rfl⟩ _ _ ⟨rfl, rfl⟩ _ _ ⟨rfl, rfl⟩ _ _ ⟨rfl, rfl⟩
        refine wl_norm (e' := [(1, _), (2, _), (3, _), (6, _), (7, _), (30, _)]) (.cons rfl (.cons rfl (.cons rfl (.cons rfl (.cons rfl (.cons rfl (.nil _))))))) (by dsimp only [cond_false, cond_true, List.nil_append, List.cons_append]) ?_
        refine wl_nil (st_tn (w_cond_t (rfl) ?_))
        refine w_skip (st_tn (w_seq (w_block (w_seq ?_))))
        refine w_draw (D := [⟨33, [], [], [], _, false, [], []⟩, ⟨34, [0], [], [], _, false, [], []⟩, ⟨35, [], [], [], _, false, [], []⟩, ⟨36, [2], [], [], _, false, [], []⟩, ⟨37, [3], [], [], _, false, [], []⟩, ⟨38, [4], [], [], _, false, [], []⟩, ⟨39, [5], [], [], _, false, [], []⟩, ⟨40, [6], [], [], _, false, [], []⟩]) [] [3] [⟨33, [], [], false, [], []⟩, ⟨34, [0], [], false, [], []⟩, ⟨35, [], [], false, [], []⟩, ⟨36, [2], [], false, [], []⟩, ⟨37, [3], [], false, [], []⟩, ⟨38, [4], [], false, [], []⟩, ⟨39, [5], [], false, [], []⟩, ⟨40, [6], [], false, [], []⟩] tMixxa (by rfl) (by kernel_rfl) (by rfl) (by rfl)
            ⟨.plain rfl (by intro X; exact op_fieldAddr (off := 1) rfl tF52_1xa),
            ⟨.plain rfl (by intro X; rintro _ _ ⟨rfl, rfl⟩; exact op_load1 rfl tO3xa (Ent.lab (l := 3) rfl (says_cel 1))),
            ⟨.plain rfl (by intro X; exact op_fieldAddr (off := 0) rfl tF52_0xa),
            ⟨.plain rfl (by intro X; rintro _ _ ⟨rfl, rfl⟩; exact op_load1 rfl tO50xa (Ent.lab (l := 3) rfl (says_cel 0))),
            ⟨.plain rfl (by intro X; rintro _ _ ⟨rfl, rfl⟩; exact op_idx (i := 0) rfl rfl tS50xa (Sl.ent (Sl.app (Sl.app hsub X) _)) (by omega)),
            ⟨.plain rfl (by intro X; rintro _ _ ⟨rfl, rfl⟩; exact op_fieldAddr (off := 2) rfl tF96_2xa),
            ⟨.plain rfl (by intro X; rintro _ _ ⟨rfl, rfl⟩; exact op_ldxf rfl tO35xa (by first | exact Sl.app (by assumption) _ | exact Sl.app (Sl.app (by assumption) _) _) (by assumption) (by rfl)),
            ⟨.plain rfl (by intro X; rintro _ _ ⟨rfl, rfl⟩; exact op_lenT rfl tS35xa (Sl.ent (by first | exact Sl.app (by assumption) _ | exact Sl.app (Sl.app (by assumption) _) _))),
            trivial⟩⟩⟩⟩⟩⟩⟩⟩ ?_
        rintro _ _ ⟨rfl, rfl⟩ _ _ ⟨rfl, rfl⟩ _ _ ⟨rfl, rfl⟩ _ _ ⟨rfl, rfl⟩ _ _ ⟨rfl, rfl⟩ _ _ ⟨rfl, rfl⟩ _ _ ⟨rfl, rfl⟩ _ _ ⟨rfl, rfl⟩
        refine wl_norm (e' := [(1, _), (2, _), (3, _), (6, _), (7, _), (34, _), (40, _)]) (.cons rfl (.cons rfl (.cons rfl (.cons rfl (.cons rfl (.cons rfl (.cons rfl (.nil _)))))))) (by dsimp only [cond_false, cond_true, List.nil_append, List.cons_append]) ?_
        refine zd rfl (op_add' rfl rfl (by omega)) ?_
        refine zd rfl (op_fieldAddr (off := 1) rfl tF52_1xa) (wl_op0 [3] rfl rfl rfl (op_store rfl rfl tZ3xa (by rfl) (by rfl) (by exact Nat.le_of_ble_eq_true rfl)) ?_)
        rintro _ _ ⟨rfl, rfl⟩
        refine wl_nil (st_tn (w_region (zd rfl (op_fieldAddr (off := 0) rfl tF52_0xa) (zd rfl (op_load1 rfl tO50xa (Ent.lab (l := 3) rfl (says_cel 0))) (zd rfl (op_sliceL (lo := 1) rfl rfl tS50xa (Sl.app hsub _) (by omega)) ?_)))))
        refine zd rfl (op_fieldAddr (off := 0) rfl tF52_0xa) (wl_op0 [3] rfl rfl rfl (op_store rfl rfl tZ50xa (by rfl) (by rfl) (by exact Nat.le_of_ble_eq_true rfl)) ?_)
        rintro _ _ ⟨rfl, rfl⟩
        refine wl_nil (st_bn (st_tn (w_region (zm rfl (zd rfl (op_add' rfl rfl (by omega)) ?_)))))
        refine za rfl (wl_nil ?_)
        refine st_roundQ (x := i) (i + 1) [3, 6] rfl (by
      have e1 : (Y.drop (i + 1)).length = (Y.drop i).length - 1 := by rw [List.length_drop, List.length_drop]; omega
      have e2 : ((f + (recsX (Y.take (i + 1))).length : Nat) : Int) = ((f + (recsX (Y.take i)).length : Nat) : Int) + x.recs.length := by rw [recsX_snoc hx, List.length_append]; omega
      dsimp only; rw [e1, e2]; rfl) (.cons rfl (.nil _)) (.cons rfl (.cons rfl (.cons rfl (.cons rfl (.nil _))))) (by
            try dsimp only
            exact hgo.1 x hx h3) (by
            try dsimp only
            have := hgo.1 x hx h3; omega)
      · -- h3-
        rw [hhd] at h3
        have h3 : ¬ ((f + (recsX (Y.take i)).length : Nat) : Int) + x.recs.length - 1 ≤ n := h3
        have hfin := hgo.2 x hx h3
        refine w_draw (D := [⟨8, [], [], [], _, false, [], []⟩, ⟨9, [], [], [], _, false, [], []⟩, ⟨10, [0, 1], [], [], _, false, [], []⟩, ⟨11, [2], [], [], _, false, [], []⟩, ⟨12, [], [], [], _, false, [], []⟩, ⟨13, [4], [], [], _, false, [], []⟩, ⟨14, [5], [], [], _, false, [], []⟩, ⟨15, [6], [], [], _, false, [], []⟩, ⟨16, [3, 7], [], [], _, false, [], []⟩, ⟨17, [8], [], [], _, false, [], []⟩, ⟨18, [], [], [], _, false, [], []⟩, ⟨19, [10], [], [], _, false, [], []⟩, ⟨20, [], [], [], _, false, [], []⟩, ⟨21, [12], [], [], _, false, [], []⟩, ⟨22, [13], [], [], _, false, [], []⟩, ⟨23, [14], [], [], _, false, [], []⟩, ⟨24, [15], [], [], _, false, [], []⟩, ⟨25, [16], [], [], _, false, [], []⟩, ⟨26, [11, 17], [], [], _, false, [], []⟩, ⟨27, [18], [], [], _, false, [], []⟩, ⟨28, [], [], [], _, false, [], []⟩, ⟨29, [19, 20], [], [], _, false, [], []⟩, ⟨30, [9, 21], [], [], _, false, [], []⟩]) [] [7, 2, 3, 1] [⟨8, [], [], false, [], []⟩, ⟨9, [], [], false, [], []⟩, ⟨10, [0, 1], [], false, [], []⟩, ⟨11, [2], [], false, [], []⟩, ⟨12, [], [], false, [], []⟩, ⟨13, [4], [], false, [], []⟩, ⟨14, [5], [], false, [], []⟩, ⟨15, [6], [], false, [], []⟩, ⟨16, [3, 7], [], false, [], []⟩, ⟨17, [8], [], false, [], []⟩, ⟨18, [], [], false, [], []⟩, ⟨19, [10], [], false, [], []⟩, ⟨20, [], [], false, [], []⟩, ⟨21, [12], [], false, [], []⟩, ⟨22, [13], [], false, [], []⟩, ⟨23, [14], [], false, [], []⟩, ⟨24, [15], [], false, [], []⟩, ⟨25, [16], [], false, [], []⟩, ⟨26, [11, 17], [], false, [], []⟩, ⟨27, [18], [], false, [], []⟩, ⟨28, [], [], false, [], []⟩, ⟨29, [19, 20], [], false, [], []⟩, ⟨30, [9, 21], [], false, [], []⟩] tMixxa (by rfl) (by kernel_rfl) (by rfl) (by rfl)
            ⟨.plain rfl (by intro X; exact op_move rfl),
            ⟨.plain rfl (by intro X; exact op_move rfl),
            ⟨.plain rfl (by intro X; rintro _ _ ⟨rfl, rfl⟩ _ _ ⟨rfl, rfl⟩; exact op_val (v' := .bool true) (by rw [decide_eq_true (by omega)]) (op_lss rfl rfl)),
            ⟨.plain rfl (by intro X; rintro _ _ ⟨rfl, rfl⟩; exact op_move rfl),
            ⟨.wanted rfl rfl rfl (by rintro _ _ ⟨rfl, rfl⟩; rfl) (by intro X; exact op_fieldAddr (off := 0) rfl tF52_0xa),
            ⟨.wanted rfl rfl rfl (by rintro _ _ ⟨rfl, rfl⟩; rfl) (by intro X; rintro _ _ ⟨rfl, rfl⟩; exact op_load1 rfl tO50xa (Ent.lab (l := 3) rfl (says_cel 0))),
            ⟨.wanted rfl rfl rfl (by rintro _ _ ⟨rfl, rfl⟩; rfl) (by intro X; rintro _ _ ⟨rfl, rfl⟩; exact op_lenT rfl tS50xa (Sl.ent (by first | exact Sl.app (by assumption) _ | exact Sl.app (Sl.app (by assumption) _) _))),
            ⟨.wanted rfl rfl rfl (by rintro _ _ ⟨rfl, rfl⟩; rfl) (by intro X; rintro _ _ ⟨rfl, rfl⟩; exact op_val (v' := .bool true) (by rw [decide_eq_true (by omega)]) (op_gtr rfl rfl)),
            ⟨.plain rfl (by intro X; rintro _ _ ⟨rfl, rfl⟩ _ _ ⟨rfl, rfl⟩; exact op_pick_t rfl rfl),
            ⟨.plain rfl (by intro X; rintro _ _ ⟨rfl, rfl⟩; exact op_move rfl),
            ⟨.wanted rfl rfl rfl (by rintro _ _ ⟨rfl, rfl⟩; rfl) (by intro X; exact op_fieldAddr (off := 1) rfl tF52_1xa),
            ⟨.wanted rfl rfl rfl (by rintro _ _ ⟨rfl, rfl⟩; rfl) (by intro X; rintro _ _ ⟨rfl, rfl⟩; exact op_load1 rfl tO3xa (Ent.lab (l := 3) rfl (says_cel 1))),
            ⟨.wanted rfl rfl rfl (by rintro _ _ ⟨rfl, rfl⟩; rfl) (by intro X; exact op_fieldAddr (off := 0) rfl tF52_0xa),
            ⟨.wanted rfl rfl rfl (by rintro _ _ ⟨rfl, rfl⟩; rfl) (by intro X; rintro _ _ ⟨rfl, rfl⟩; exact op_load1 rfl tO50xa (Ent.lab (l := 3) rfl (says_cel 0))),
            ⟨.wanted rfl rfl rfl (by rintro _ _ ⟨rfl, rfl⟩; rfl) (by intro X; rintro _ _ ⟨rfl, rfl⟩; exact op_idx (i := 0) rfl rfl tS50xa (Sl.ent (Sl.app (Sl.app hsub X) _)) (by omega)),
            ⟨.wanted rfl rfl rfl (by rintro _ _ ⟨rfl, rfl⟩; rfl) (by intro X; rintro _ _ ⟨rfl, rfl⟩; exact op_fieldAddr (off := 2) rfl tF96_2xa),
            ⟨.wanted rfl rfl rfl (by rintro _ _ ⟨rfl, rfl⟩; rfl) (by intro X; rintro _ _ ⟨rfl, rfl⟩; exact op_ldxf rfl tO35xa (by first | exact Sl.app (by assumption) _ | exact Sl.app (Sl.app (by assumption) _) _) (by assumption) (by rfl)),
            ⟨.wanted rfl rfl rfl (by rintro _ _ ⟨rfl, rfl⟩; rfl) (by intro X; rintro _ _ ⟨rfl, rfl⟩; exact op_lenT rfl tS35xa (Sl.ent (by first | exact Sl.app (by assumption) _ | exact Sl.app (Sl.app (by assumption) _) _))),
            ⟨.wanted rfl rfl rfl (by rintro _ _ ⟨rfl, rfl⟩; rfl) (by intro X; rintro _ _ ⟨rfl, rfl⟩ _ _ ⟨rfl, rfl⟩; exact op_add' rfl rfl (by omega)),
            ⟨.wanted rfl rfl rfl (by rintro _ _ ⟨rfl, rfl⟩; rfl) (by intro X; rintro _ _ ⟨rfl, rfl⟩; exact op_sub' rfl rfl (by omega)),
            ⟨.wanted rfl rfl rfl (by rintro _ _ ⟨rfl, rfl⟩; rfl) (by intro X; exact op_move rfl),
            ⟨.wanted rfl rfl rfl (by rintro _ _ ⟨rfl, rfl⟩; rfl) (by intro X; rintro _ _ ⟨rfl, rfl⟩ _ _ ⟨rfl, rfl⟩; exact op_val (v' := .bool false) (by rw [decide_eq_false (by omega)]) (op_leq rfl rfl)),
            ⟨.plain rfl (by intro X; rintro _ _ ⟨rfl, rfl⟩ _ _ ⟨rfl, rfl⟩; exact op_pick_t rfl rfl),
            trivial⟩⟩⟩⟩⟩⟩⟩⟩⟩⟩⟩⟩⟩⟩⟩⟩⟩⟩⟩⟩⟩⟩⟩ ?_
        rintro _ _ ⟨rfl, rfl⟩ _ _ ⟨rfl, rfl⟩ _ _ ⟨rfl, rfl⟩ _ _ ⟨rfl, rfl⟩ _ _ ⟨rfl, rfl⟩ _ _ ⟨rfl, rfl⟩ _ _ ⟨rfl, rfl⟩ _ _ ⟨rfl, rfl⟩ _ _ ⟨rfl, rfl⟩ _ _ ⟨rfl, rfl⟩ _ _ ⟨rfl, rfl⟩ _ _ ⟨rfl, rfl⟩ _ _ ⟨rfl, rfl⟩ _ _ ⟨rfl, rfl⟩ _ _ ⟨rfl, rfl⟩ _ _ ⟨rfl, rfl⟩ _ _ ⟨rfl, rfl⟩ _ _ ⟨rfl, rfl⟩ _ _ ⟨rfl, rfl⟩ _ _ ⟨rfl, rfl⟩ _ _ ⟨rfl, rfl⟩ _ _ ⟨rfl, rfl⟩ _ _ ⟨rfl, rfl⟩
        refine wl_norm (e' := [(1, _), (2, _), (3, _), (6, _), (7, _), (30, _)]) (.cons rfl (.cons rfl (.cons rfl (.cons rfl (.cons rfl (.cons rfl (.nil _))))))) (by dsimp only [cond_false, cond_true, List.nil_append, List.cons_append]) ?_
        refine wl_nil (st_tn (w_cond_f (rfl) ?_))
        refine w_exit (st_te ?_)
        refine st_te ?_
        refine st_be (st_tn (w_seq (w_region (zd rfl (op_loadA rfl tA52xa (Ent.lab (l := 3) rfl (says_cel 0)) (Nat.le_of_ble_eq_true rfl)) (wl_op0 [6] rfl rfl rfl (op_store rfl rfl tZ52xa (by rfl) (by rfl) (by exact Nat.le_of_ble_eq_true rfl)) ?_)))))
        rintro _ _ ⟨rfl, rfl⟩
        refine wl_nil (st_tn (w_ret (st_ret (vs := [_]) [] Try.results40 ⟨⟨_, rfl, Ent.mono (Ent.lab (l := 6) rfl (says_cel 0)) (fun _ h => run_load_agg tA52xa h (Nat.le_of_ble_eq_true rfl))⟩, trivial⟩ rfl ?_)))
        refine ⟨_, rfl, ?_⟩
        rw [hfin]; exact ⟨rfl, rfl⟩
    · -- h2-
      have hfin : trJ f Y n most = i := by
        by_cases hY : Y = []
        · have h0 : Y.length = 0 := by rw [hY]; rfl
          omega
        · have := htj.2.1 hY; omega
      refine w_draw (D := [⟨8, [], [], [], _, false, [], []⟩, ⟨9, [], [], [], _, false, [], []⟩, ⟨10, [0, 1], [], [], _, false, [], []⟩, ⟨11, [2], [], [], _, false, [], []⟩, ⟨12, [], [], [], _, false, [], []⟩, ⟨13, [4], [], [], _, false, [], []⟩, ⟨14, [5], [], [], _, false, [], []⟩, ⟨15, [6], [], [], _, false, [], []⟩, ⟨16, [3, 7], [], [], _, false, [], []⟩, ⟨17, [8], [], [], _, false, [], []⟩, ⟨18, [], [], [], Det undef, false, [], []⟩, ⟨19, [], [], [], Det undef, false, [], []⟩, ⟨20, [], [], [], Det undef, false, [], []⟩, ⟨21, [], [], [], Det undef, false, [], []⟩, ⟨22, [], [], [], Det undef, false, [], []⟩, ⟨23, [], [], [], Det undef, false, [], []⟩, ⟨24, [], [], [], Det undef, false, [], []⟩, ⟨25, [], [], [], Det undef, false, [], []⟩, ⟨26, [], [], [], Det undef, false, [], []⟩, ⟨27, [], [], [], Det undef, false, [], []⟩, ⟨28, [], [], [], Det undef, false, [], []⟩, ⟨29, [], [], [], Det undef, false, [], []⟩, ⟨30, [9, 21], [], [], _, false, [], []⟩]) [] [7, 2, 3, 1] [⟨8, [], [], false, [], []⟩, ⟨9, [], [], false, [], []⟩, ⟨10, [0, 1], [], false, [], []⟩, ⟨11, [2], [], false, [], []⟩, ⟨12, [], [], false, [], []⟩, ⟨13, [4], [], false, [], []⟩, ⟨14, [5], [], false, [], []⟩, ⟨15, [6], [], false, [], []⟩, ⟨16, [3, 7], [], false, [], []⟩, ⟨17, [8], [], false, [], []⟩, ⟨18, [], [], false, [], []⟩, ⟨19, [], [], false, [], []⟩, ⟨20, [], [], false, [], []⟩, ⟨21, [], [], false, [], []⟩, ⟨22, [], [], false, [], []⟩, ⟨23, [], [], false, [], []⟩, ⟨24, [], [], false, [], []⟩, ⟨25, [], [], false, [], []⟩, ⟨26, [], [], false, [], []⟩, ⟨27, [], [], false, [], []⟩, ⟨28, [], [], false, [], []⟩, ⟨29, [], [], false, [], []⟩, ⟨30, [9, 21], [], false, [], []⟩] tMixxa (by rfl) (by kernel_rfl) (by rfl) (by rfl)
          ⟨.plain rfl (by intro X; exact op_move rfl),
          ⟨.plain rfl (by intro X; exact op_move rfl),
          ⟨.plain rfl (by intro X; rintro _ _ ⟨rfl, rfl⟩ _ _ ⟨rfl, rfl⟩; exact op_val (v' := .bool true) (by rw [decide_eq_true (by omega)]) (op_lss rfl rfl)),
          ⟨.plain rfl (by intro X; rintro _ _ ⟨rfl, rfl⟩; exact op_move rfl),
          ⟨.wanted rfl rfl rfl (by rintro _ _ ⟨rfl, rfl⟩; rfl) (by intro X; exact op_fieldAddr (off := 0) rfl tF52_0xa),
          ⟨.wanted rfl rfl rfl (by rintro _ _ ⟨rfl, rfl⟩; rfl) (by intro X; rintro _ _ ⟨rfl, rfl⟩; exact op_load1 rfl tO50xa (Ent.lab (l := 3) rfl (says_cel 0))),
          ⟨.wanted rfl rfl rfl (by rintro _ _ ⟨rfl, rfl⟩; rfl) (by intro X; rintro _ _ ⟨rfl, rfl⟩; exact op_lenT rfl tS50xa (Sl.ent (by first | exact Sl.app (by assumption) _ | exact Sl.app (Sl.app (by assumption) _) _))),
          ⟨.wanted rfl rfl rfl (by rintro _ _ ⟨rfl, rfl⟩; rfl) (by intro X; rintro _ _ ⟨rfl, rfl⟩; exact op_val (v' := .bool false) (by rw [decide_eq_false (by omega)]) (op_gtr rfl rfl)),
          ⟨.plain rfl (by intro X; rintro _ _ ⟨rfl, rfl⟩ _ _ ⟨rfl, rfl⟩; exact op_pick_t rfl rfl),
          ⟨.plain rfl (by intro X; rintro _ _ ⟨rfl, rfl⟩; exact op_move rfl),
          ⟨.unwanted rfl rfl rfl (by rintro _ _ ⟨rfl, rfl⟩; exact congrArg (offB true) (by rfl : _ = Value.bool false)) ⟨rfl, rfl⟩ rfl rfl,
          ⟨.unwanted rfl rfl rfl (by rintro _ _ ⟨rfl, rfl⟩; exact congrArg (offB true) (by rfl : _ = Value.bool false)) ⟨rfl, rfl⟩ rfl rfl,
          ⟨.unwanted rfl rfl rfl (by rintro _ _ ⟨rfl, rfl⟩; exact congrArg (offB true) (by rfl : _ = Value.bool false)) ⟨rfl, rfl⟩ rfl rfl,
          ⟨.unwanted rfl rfl rfl (by rintro _ _ ⟨rfl, rfl⟩; exact congrArg (offB true) (by rfl : _ = Value.bool false)) ⟨rfl, rfl⟩ rfl rfl,
          ⟨.unwanted rfl rfl rfl (by rintro _ _ ⟨rfl, rfl⟩; exact congrArg (offB true) (by rfl : _ = Value.bool false)) ⟨rfl, rfl⟩ rfl rfl,
          ⟨.unwanted rfl rfl rfl (by rintro _ _ ⟨rfl, rfl⟩; exact congrArg (offB true) (by rfl : _ = Value.bool false)) ⟨rfl, rfl⟩ rfl rfl,
          ⟨.unwanted rfl rfl rfl (by rintro _ _ ⟨rfl, rfl⟩; exact congrArg (offB true) (by rfl : _ = Value.bool false)) ⟨rfl, rfl⟩ rfl rfl,
          ⟨.unwanted rfl rfl rfl (by rintro _ _ ⟨rfl, rfl⟩; exact congrArg (offB true) (by rfl : _ = Value.bool false)) ⟨rfl, rfl⟩ rfl rfl,
          ⟨.unwanted rfl rfl rfl (by rintro _ _ ⟨rfl, rfl⟩; exact congrArg (offB true) (by rfl : _ = Value.bool false)) ⟨rfl, rfl⟩ rfl rfl,
          ⟨.unwanted rfl rfl rfl (by rintro _ _ ⟨rfl, rfl⟩; exact congrArg (offB true) (by rfl : _ = Value.bool false)) ⟨rfl, rfl⟩ rfl rfl,
          ⟨.unwanted rfl rfl rfl (by rintro _ _ ⟨rfl, rfl⟩; exact congrArg (offB true) (by rfl : _ = Value.bool false)) ⟨rfl, rfl⟩ rfl rfl,
          ⟨.unwanted rfl rfl rfl (by rintro _ _ ⟨rfl, rfl⟩; exact congrArg (offB true) (by rfl : _ = Value.bool false)) ⟨rfl, rfl⟩ rfl rfl,
          ⟨.plain rfl (by intro X; rintro _ _ ⟨rfl, rfl⟩ _ _ ⟨rfl, rfl⟩; exact op_pick_f rfl rfl),
          trivial⟩⟩⟩⟩⟩⟩⟩⟩⟩⟩⟩⟩⟩⟩⟩⟩⟩⟩⟩⟩⟩⟩⟩ ?_
      rintro _ _ ⟨rfl, rfl⟩ _ _ ⟨rfl, rfl⟩ _ _ ⟨rfl, rfl⟩ _ _ ⟨rfl, rfl⟩ _ _ ⟨rfl, rfl⟩ _ _ ⟨rfl, rfl⟩ _ _ ⟨rfl, rfl⟩ _ _ ⟨rfl, rfl⟩ _ _ ⟨rfl, rfl⟩ _ _ ⟨rfl, rfl⟩ _ _ ⟨rfl, rfl⟩ _ _ ⟨rfl, rfl⟩ _ _ ⟨rfl, rfl⟩ _ _ ⟨rfl, rfl⟩ _ _ ⟨rfl, rfl⟩ _ _ ⟨rfl, rfl⟩ _ _ ⟨rfl, rfl⟩ _ _ ⟨rfl, rfl⟩ _ _ ⟨rfl, rfl⟩ _ _ ⟨rfl, rfl⟩ _ _ ⟨rfl, rfl⟩ _ _ ⟨rfl, rfl⟩ _ _ ⟨rfl, rfl⟩
      refine wl_norm (e' := [(1, _), (2, _), (3, _), (6, _), (7, _), (30, _)]) (.cons rfl (.cons rfl (.cons rfl (.cons rfl (.cons rfl (.cons rfl (.nil _))))))) (by dsimp only [cond_false, cond_true, List.nil_append, List.cons_append]) ?_
      refine wl_nil (st_tn (w_cond_f (rfl) ?_))
      refine w_exit (st_te ?_)
      refine st_te ?_
      refine st_be (st_tn (w_seq (w_region (zd rfl (op_loadA rfl tA52xa (Ent.lab (l := 3) rfl (says_cel 0)) (Nat.le_of_ble_eq_true rfl)) (wl_op0 [6] rfl rfl rfl (op_store rfl rfl tZ52xa (by rfl) (by rfl) (by exact Nat.le_of_ble_eq_true rfl)) ?_)))))
      rintro _ _ ⟨rfl, rfl⟩
      refine wl_nil (st_tn (w_ret (st_ret (vs := [_]) [] Try.results40 ⟨⟨_, rfl, Ent.mono (Ent.lab (l := 6) rfl (says_cel 0)) (fun _ h => run_load_agg tA52xa h (Nat.le_of_ble_eq_true rfl))⟩, trivial⟩ rfl ?_)))
      refine ⟨_, rfl, ?_⟩
      rw [hfin]; exact ⟨rfl, rfl⟩
  · -- h1-
    have hfin : trJ f Y n most = i := by omega
    refine w_draw (D := [⟨8, [], [], [], _, false, [], []⟩, ⟨9, [], [], [], _, false, [], []⟩, ⟨10, [0, 1], [], [], _, false, [], []⟩, ⟨11, [2], [], [], _, false, [], []⟩, ⟨12, [], [], [], Det undef, false, [], []⟩, ⟨13, [], [], [], Det undef, false, [], []⟩, ⟨14, [], [], [], Det undef, false, [], []⟩, ⟨15, [], [], [], Det undef, false, [], []⟩, ⟨16, [3, 7], [], [], _, false, [], []⟩, ⟨17, [8], [], [], _, false, [], []⟩, ⟨18, [], [], [], Det undef, false, [], []⟩, ⟨19, [], [], [], Det undef, false, [], []⟩, ⟨20, [], [], [], Det undef, false, [], []⟩, ⟨21, [], [], [], Det undef, false, [], []⟩, ⟨22, [], [], [], Det undef, false, [], []⟩, ⟨23, [], [], [], Det undef, false, [], []⟩, ⟨24, [], [], [], Det undef, false, [], []⟩, ⟨25, [], [], [], Det undef, false, [], []⟩, ⟨26, [], [], [], Det undef, false, [], []⟩, ⟨27, [], [], [], Det undef, false, [], []⟩, ⟨28, [], [], [], Det undef, false, [], []⟩, ⟨29, [], [], [], Det undef, false, [], []⟩, ⟨30, [9, 21], [], [], _, false, [], []⟩]) [] [7, 2, 3, 1] [⟨8, [], [], false, [], []⟩, ⟨9, [], [], false, [], []⟩, ⟨10, [0, 1], [], false, [], []⟩, ⟨11, [2], [], false, [], []⟩, ⟨12, [], [], false, [], []⟩, ⟨13, [], [], false, [], []⟩, ⟨14, [], [], false, [], []⟩, ⟨15, [], [], false, [], []⟩, ⟨16, [3, 7], [], false, [], []⟩, ⟨17, [8], [], false, [], []⟩, ⟨18, [], [], false, [], []⟩, ⟨19, [], [], false, [], []⟩, ⟨20, [], [], false, [], []⟩, ⟨21, [], [], false, [], []⟩, ⟨22, [], [], false, [], []⟩, ⟨23, [], [], false, [], []⟩, ⟨24, [], [], false, [], []⟩, ⟨25, [], [], false, [], []⟩, ⟨26, [], [], false, [], []⟩, ⟨27, [], [], false, [], []⟩, ⟨28, [], [], false, [], []⟩, ⟨29, [], [], false, [], []⟩, ⟨30, [9, 21], [], false, [], []⟩] tMixxa (by rfl) (by kernel_rfl) (by rfl) (by rfl)
        ⟨.plain rfl (by intro X; exact op_move rfl),
        ⟨.plain rfl (by intro X; exact op_move rfl),
        ⟨.plain rfl (by intro X; rintro _ _ ⟨rfl, rfl⟩ _ _ ⟨rfl, rfl⟩; exact op_val (v' := .bool false) (by rw [decide_eq_false (by omega)]) (op_lss rfl rfl)),
        ⟨.plain rfl (by intro X; rintro _ _ ⟨rfl, rfl⟩; exact op_move rfl),
        ⟨.unwanted rfl rfl rfl (by rintro _ _ ⟨rfl, rfl⟩; exact congrArg (offB true) (by rfl : _ = Value.bool false)) ⟨rfl, rfl⟩ rfl rfl,
        ⟨.unwanted rfl rfl rfl (by rintro _ _ ⟨rfl, rfl⟩; exact congrArg (offB true) (by rfl : _ = Value.bool false)) ⟨rfl, rfl⟩ rfl rfl,
        ⟨.unwanted rfl rfl rfl (by rintro _ _ ⟨rfl, rfl⟩; exact congrArg (offB true) (by rfl : _ = Value.bool false)) ⟨rfl, rfl⟩ rfl rfl,
        ⟨.unwanted rfl rfl rfl (by rintro _ _ ⟨rfl, rfl⟩; exact congrArg (offB true) (by rfl : _ = Value.bool false)) ⟨rfl, rfl⟩ rfl rfl,
        ⟨.plain rfl (by intro X; rintro _ _ ⟨rfl, rfl⟩ _ _ ⟨rfl, rfl⟩; exact op_pick_f rfl rfl),
        ⟨.plain rfl (by intro X; rintro _ _ ⟨rfl, rfl⟩; exact op_move rfl),
        ⟨.unwanted rfl rfl rfl (by rintro _ _ ⟨rfl, rfl⟩; exact congrArg (offB true) (by rfl : _ = Value.bool false)) ⟨rfl, rfl⟩ rfl rfl,
        ⟨.unwanted rfl rfl rfl (by rintro _ _ ⟨rfl, rfl⟩; exact congrArg (offB true) (by rfl : _ = Value.bool false)) ⟨rfl, rfl⟩ rfl rfl,
        ⟨.unwanted rfl rfl rfl (by rintro _ _ ⟨rfl, rfl⟩; exact congrArg (offB true) (by rfl : _ = Value.bool false)) ⟨rfl, rfl⟩ rfl rfl,
        ⟨.unwanted rfl rfl rfl (by rintro _ _ ⟨rfl, rfl⟩; exact congrArg (offB true) (by rfl : _ = Value.bool false)) ⟨rfl, rfl⟩ rfl rfl,
        ⟨.unwanted rfl rfl rfl (by rintro _ _ ⟨rfl, rfl⟩; exact congrArg (offB true) (by rfl : _ = Value.bool false)) ⟨rfl, rfl⟩ rfl rfl,
        ⟨.unwanted rfl rfl rfl (by rintro _ _ ⟨rfl, rfl⟩; exact congrArg (offB true) (by rfl : _ = Value.bool false)) ⟨rfl, rfl⟩ rfl rfl,
        ⟨.unwanted rfl rfl rfl (by rintro _ _ ⟨rfl, rfl⟩; exact congrArg (offB true) (by rfl : _ = Value.bool false)) ⟨rfl, rfl⟩ rfl rfl,
        ⟨.unwanted rfl rfl rfl (by rintro _ _ ⟨rfl, rfl⟩; exact congrArg (offB true) (by rfl : _ = Value.bool false)) ⟨rfl, rfl⟩ rfl rfl,
        ⟨.unwanted rfl rfl rfl (by rintro _ _ ⟨rfl, rfl⟩; exact congrArg (offB true) (by rfl : _ = Value.bool false)) ⟨rfl, rfl⟩ rfl rfl,
        ⟨.unwanted rfl rfl rfl (by rintro _ _ ⟨rfl, rfl⟩; exact congrArg (offB true) (by rfl : _ = Value.bool false)) ⟨rfl, rfl⟩ rfl rfl,
        ⟨.unwanted rfl rfl rfl (by rintro _ _ ⟨rfl, rfl⟩; exact congrArg (offB true) (by rfl : _ = Value.bool false)) ⟨rfl, rfl⟩ rfl rfl,
        ⟨.unwanted rfl rfl rfl (by rintro _ _ ⟨rfl, rfl⟩; exact congrArg (offB true) (by rfl : _ = Value.bool false)) ⟨rfl, rfl⟩ rfl rfl,
        ⟨.plain rfl (by intro X; rintro _ _ ⟨rfl, rfl⟩ _ _ ⟨rfl, rfl⟩; exact op_pick_f rfl rfl),
        trivial⟩⟩⟩⟩⟩⟩⟩⟩⟩⟩⟩⟩⟩⟩⟩⟩⟩⟩⟩⟩⟩⟩⟩ ?_
    rintro _ _ ⟨rfl, rfl⟩ _ _ ⟨rfl, rfl⟩ _ _ ⟨rfl, rfl⟩ _ _ ⟨rfl, rfl⟩ _ _ ⟨rfl, rfl⟩ _ _ ⟨rfl, rfl⟩ _ _ ⟨rfl, rfl⟩ _ _ ⟨rfl, rfl⟩ _ _ ⟨rfl, rfl⟩ _ _ ⟨rfl, rfl⟩ _ _ ⟨rfl, rfl⟩ _ _ ⟨rfl, rfl⟩ _ _ ⟨rfl, rfl⟩ _ _ ⟨rfl, rfl⟩ _ _ ⟨rfl, rfl⟩ _ _ ⟨rfl, rfl⟩ _ _ ⟨rfl, rfl⟩ _ _ ⟨rfl, rfl⟩ _ _ ⟨rfl, rfl⟩ _ _ ⟨rfl, rfl⟩ _ _ ⟨rfl, rfl⟩ _ _ ⟨rfl, rfl⟩ _ _ ⟨rfl, rfl⟩
    refine wl_norm (e' := [(1, _), (2, _), (3, _), (6, _), (7, _), (30, _)]) (.cons rfl (.cons rfl (.cons rfl (.cons rfl (.cons rfl (.cons rfl (.nil _))))))) (by dsimp only [cond_false, cond_true, List.nil_append, List.cons_append]) ?_
    refine wl_nil (st_tn (w_cond_f (rfl) ?_))
    refine w_exit (st_te ?_)
    refine st_te ?_
    refine st_be (st_tn (w_seq (w_region (zd rfl (op_loadA rfl tA52xa (Ent.lab (l := 3) rfl (says_cel 0)) (Nat.le_of_ble_eq_true rfl)) (wl_op0 [6] rfl rfl rfl (op_store rfl rfl tZ52xa (by rfl) (by rfl) (by exact Nat.le_of_ble_eq_true rfl)) ?_)))))
    rintro _ _ ⟨rfl, rfl⟩
    refine wl_nil (st_tn (w_ret (st_ret (vs := [_]) [] Try.results40 ⟨⟨_, rfl, Ent.mono (Ent.lab (l := 6) rfl (says_cel 0)) (fun _ h => run_load_agg tA52xa h (Nat.le_of_ble_eq_true rfl))⟩, trivial⟩ rfl ?_)))
    refine ⟨_, rfl, ?_⟩
    rw [hfin]; exact ⟨rfl, rfl⟩
end Go.Proofs.Ytcbigmgakdanjaa
