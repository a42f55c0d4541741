/- Commit on a disk that does not fail, whole; the law Limits (layer 27). Conditions: none. -/
import Derived.Test.YtcbigmgakdanjaaOc
import Derived.Test.YtcbigmgakdanjaaSlD
namespace Go.Proofs.Ytcbigmgakdanjaa
open Go Go.SL Go.RowKit Go.RdM Go.WalM
set_option linter.unusedVariables false
set_option linter.unusedSimpArgs false
theorem tM27ww : makeB Try.prog 27 5 1 = some (Value.int .u8 0) := by kernel_rfl
theorem tS35ww : sliceB Try.prog 35 9 1 = true := by kernel_rfl

theorem oldD_len (s : DskM.St) (n : RdM.Bs) : (oldD s n).length = DskM.lenOf s.fs n := by
  unfold oldD DskM.lenOf
  cases DskM.find s.fs n <;> rfl
theorem used_add {s : DskM.St} (hi : DskM.Inc s.fs) (n x : RdM.Bs) : DskM.used (addD s n x).fs = DskM.used s.fs + x.length ∧ (addD s n x).fs.length ≤ s.fs.length + 1 := by
  have h1 := DskM.used_set (k := n) (f := ⟨oldD s n ++ x, (oldD s n ++ x).length, true⟩) hi
  have h2 := DskM.len_set (k := n) (f := ⟨oldD s n ++ x, (oldD s n ++ x).length, true⟩) hi
  dsimp only at h1
  rw [List.length_append, oldD_len] at h1
  constructor
  · show DskM.used (DskM.setS s.fs n _) = _
    rw [show (oldD s n ++ x).length = DskM.lenOf s.fs n + x.length by rw [List.length_append, oldD_len]] at *
    omega
  · show (DskM.setS s.fs n _).length ≤ _
    rw [h2]; split <;> omega
theorem com_all {nm : RdM.Bs} {L : Lg} {s : DskM.St} (hL : OkL L) (hO : OnD nm L s) (hg : DskM.Good s) (hd : s.down = false) (hl : s.lim = false) (hnm : DskM.nameB nm = true ∧ nm.length ≤ 48) (hb : L.broken = false) (hp : L.pend ≠ []) (hnx : nextN L.segs L.fresh ≤ 999999) (hc : s.fs.length < 256)
    (hu : (DskM.used s.fs + (encG (lastN L + 1) L.pend).length : Int) ≤ s.cap) (hz : L.first + (allR L.segs).length + L.pend.length ≤ 1000000000000) :
    ∃ s1, s1 = addD s (fileN nm (nextN L.segs L.fresh)) (encG (lastN L + 1) L.pend) ∧ comO nm L s = ((((lastN (commitL L) : Nat) : Int), 0), commitL L, s1) ∧ DskM.Good s1 ∧ OnD nm (commitL L) s1 ∧ OkL (commitL L) ∧ s1.down = false ∧ s1.lim = false ∧ s1.cap = s.cap ∧ DskM.used s1.fs = DskM.used s.fs + (encG (lastN L + 1) L.pend).length ∧ s1.fs.length ≤ s.fs.length + 1 := by
  have hn := inR_file hnm (nextN L.segs L.fresh)
  refine ⟨_, rfl, com_q hnm hg hd hl hb hp hc hu, ?_, onD_commit hL hO hg.inc hp hnx, ?_, hd, hl, rfl, (used_add hg.inc _ _).1, (used_add hg.inc _ _).2⟩
  · have h1 := (hg.app (fileN nm (nextN L.segs L.fresh)) (encG (lastN L + 1) L.pend)).syn_ (fileN nm (nextN L.segs L.fresh))
    rw [app_q hd hl hn hc hu] at h1
    dsimp only at h1
    rw [syn_q hg.inc hd hl hn] at h1
    exact h1
  · rw [lastN_commit hp]
    refine ⟨oks_note hL.seg rfl ⟨hp, hL.pl, hL.pc⟩ hnx, fun r hr => by simp at hr, by simp, ?_⟩
    show L.first + (allR (noteS L.segs _ L.pend)).length ≤ _
    rw [noteS_all, List.length_append]; omega
theorem opened_ok {L : Lg} (hL : OkL L) : OkL ⟨L.first, L.segs, [], true, false⟩ := ⟨hL.seg, fun r hr => by simp at hr, by simp, hL.sz⟩
/-- A log that waits with records, on a new disk. -/
def waitL (P : List RdM.Bs) : Lg := ⟨1, [], P, true, false⟩
structure Wt0 (P : List RdM.Bs) (i : Nat) : Prop where
  len : P.length = min i 256
  rc : ∀ r ∈ P, r.length ≤ 65536
  sum : (P.map List.length).sum ≤ 65536 + i
theorem okl_wait {P : List RdM.Bs} {i : Nat} (h : Wt0 P i) : OkL (waitL P) := ⟨oks_nil, h.rc, by have := h.len; show P.length ≤ _; omega, by simp [waitL, allR]⟩
theorem wait_app {P : List RdM.Bs} {i : Nat} (h : Wt0 P i) : appL (waitL P) [114] = (if i < 256 then (((i + 1 : Nat) : Int), 0) else (0, 6), waitL (if i < 256 then P ++ [[114]] else P)) := by
  have hl := h.len
  unfold appL waitL
  rw [if_neg (by simp), if_neg (by simp)]
  dsimp only
  by_cases hi : i < 256
  · rw [if_neg (by omega), if_pos hi, if_pos hi]
    have : lastN ⟨1, [], P, true, false⟩ + (P.length + 1) = i + 1 := by simp [lastN, allR]; omega
    rw [this]
  · rw [if_pos (by omega), if_neg hi, if_neg hi]
theorem wait_next {P : List RdM.Bs} {i : Nat} (h : Wt0 P i) : Wt0 (if i < 256 then P ++ [[114]] else P) (i + 1) := by
  have hl := h.len
  split
  · refine ⟨by rw [List.length_append, List.length_singleton]; omega, fun r hr => ?_, ?_⟩
    · rcases List.mem_append.1 hr with hr | hr
      · exact h.rc r hr
      · rw [List.mem_singleton] at hr; subst hr; decide
    · have := h.sum
      rw [List.map_append, List.sum_append]; simp; omega
  · exact ⟨by omega, h.rc, by have := h.sum; omega⟩
theorem com_wait {P : List RdM.Bs} {i : Nat} (h : Wt0 P i) (hi : 0 < i ∧ i ≤ 257) : ∃ s1, comO [108, 111, 103] (waitL P) (newS 1048576) = (((P.length : Int), 0), ⟨1, [⟨1, [P]⟩], [], false, false⟩, s1) ∧ DskM.Good s1 ∧ OnD [108, 111, 103] ⟨1, [⟨1, [P]⟩], [], false, false⟩ s1 ∧ OkL ⟨1, [⟨1, [P]⟩], [], false, false⟩ ∧ s1.down = false := by
  have hl := h.len
  have hp : P ≠ [] := List.length_pos_iff.1 (by omega)
  have hes := encG_sum (f := lastN (waitL P) + 1) (g := P) ⟨hp, by omega, h.rc⟩ (by simp [lastN, waitL, allR])
  obtain ⟨s1, _, h1, h2, h3, h4, h5, _⟩ := com_all (nm := [108, 111, 103]) (L := waitL P) (s := newS 1048576) (okl_wait h) ⟨trivial, fun hh => by simp [waitL] at hh⟩ (good_new (by decide)) rfl rfl name_log rfl hp (by show 1 ≤ 999999; omega) (by simp [newS]) (by
      have hsum := h.sum
      show ((DskM.used [] : Nat) : Int) + _ ≤ 1048576
      have : DskM.used [] = 0 := rfl
      rw [this]
      show (0 : Int) + (encG (lastN (waitL P) + 1) P).length ≤ 1048576
      omega) (by simp [waitL, allR]; omega)
  have hc : commitL (waitL P) = ⟨1, [⟨1, [P]⟩], [], false, false⟩ := by rw [lastN_commit hp]; rfl
  rw [hc] at h1 h3 h4
  have hln : lastN ⟨1, [⟨1, [P]⟩], [], false, false⟩ = P.length := by simp [lastN, allR, Sg.recs]
  rw [hln] at h1
  exact ⟨s1, h1, h2, h3, h4, h5⟩
abbrev LBs := List RdM.Bs
theorem slen {x : RdM.Bs} {k : Nat} (h : x = List.replicate k 0) : x.length = k := by rw [h, List.length_replicate]
theorem app_first (x : RdM.Bs) : appL newL x = if 65536 < x.length then ((0, 5), newL) else ((1, 0), waitL [x]) := by
  unfold appL newL
  rw [if_neg (by simp)]
  split
  · rfl
  · rw [if_neg (by simp)]; rfl
set_option maxHeartbeats 4000000 in
set_option maxRecDepth 100000 in
theorem lawLimits_any {σ : World} {F : List Res} (n z : Int) (hn : 0 ≤ n ∧ n ≤ 255) (hz : 0 ≤ z ∧ z ≤ 255) : FnT Try.prog σ F 3 [.int .u8 n, .int .u8 z] [] (fun u ρ => u = .bool true ∧ ρ = []) := by
  refine fn_of 122 Try.func3 rfl Try.ntmps3 rfl ?_
  refine w_seq ?_
  refine w_region ?_
  refine wl_det rfl rfl rfl (op_assign rfl) ?_
  refine wl_nil ?_
  refine st_tn ?_
  refine w_seq ?_
  refine w_region ?_
  refine wl_op [] rfl rfl rfl rfl (op_fn Try.func12 rfl rfl rfl (made_c 601 611 1048576 [108, 111, 103] (by decide) name_log)) ?_
  rintro _ _ ⟨d17, b17, rfl, rfl⟩
  refine wl_det rfl rfl rfl (op_move rfl) ?_
  refine wl_det rfl rfl rfl (op_extract rfl rfl) ?_
  refine wl_det rfl rfl rfl (op_extract rfl rfl) ?_
  refine wl_det rfl rfl rfl (op_assign rfl) ?_
  refine wl_det rfl rfl rfl (op_assign rfl) ?_
  refine wl_nil ?_
  refine st_tn ?_
  refine w_seq ?_
  refine w_seq ?_
  refine w_region ?_
  refine wl_det rfl rfl rfl (op_fn Try.func13 rfl rfl rfl (known_any)) ?_
  refine wl_det rfl rfl rfl (op_not_t rfl) ?_
  refine wl_det rfl rfl rfl (op_move rfl) ?_
  refine wl_wanted_det rfl rfl rfl rfl rfl rfl rfl (op_move rfl) ?_
  refine wl_wanted_det rfl rfl rfl rfl rfl rfl rfl (op_val (v' := .bool false) (by rfl) (op_eqPtr rfl Try.underlying23)) ?_
  refine wl_det rfl rfl rfl (op_pick_f rfl rfl) ?_
  refine wl_nil ?_
  refine st_tn ?_
  refine w_cond_f (rfl) ?_
  refine w_skip ?_
  refine st_tn ?_
  refine w_seq ?_
  obtain ⟨cnt, hcnt⟩ : ∃ cnt : Nat, (cnt : Int) = 255 + n % 3 := ⟨(255 + n % 3).toNat, by omega⟩
  obtain ⟨k, hk⟩ : ∃ k : Nat, (k : Int) = 65535 + z % 3 := ⟨(65535 + z % 3).toNat, by omega⟩
  obtain ⟨x, hx⟩ : ∃ x : RdM.Bs, x = List.replicate k 0 := ⟨_, rfl⟩
  have hxl := slen hx
  have happ := app_first x
  refine w_region ?_
  refine wl_det rfl rfl rfl (op_move rfl) ?_
  refine wl_det rfl rfl rfl (op_remN rfl rfl (by omega) (by omega)) ?_
  refine wl_det rfl rfl rfl (op_convI64 rfl (by rw [Try.underlying5]; rfl) Try.underlying3 (by omega)) ?_
  refine wl_det rfl rfl rfl (op_val (v' := .int .i64 (cnt : Int)) (by rw [hcnt]) (op_add' rfl rfl (by omega))) ?_
  refine wl_det rfl rfl rfl (op_assign rfl) ?_
  refine wl_nil ?_
  refine st_tn ?_
  refine w_seq ?_
  refine w_region ?_
  refine wl_det rfl rfl rfl (op_move rfl) ?_
  refine wl_det rfl rfl rfl (op_remN rfl rfl (by omega) (by omega)) ?_
  refine wl_det rfl rfl rfl (op_convI64 rfl (by rw [Try.underlying5]; rfl) Try.underlying3 (by omega)) ?_
  refine wl_det rfl rfl rfl (op_val (v' := .int .i64 (k : Int)) (by rw [hk]) (op_add' rfl rfl (by omega))) ?_
  refine wl_op [] rfl rfl rfl rfl (op_makeSlice (enc := encU) (a0 := 0) (lab := 34) rfl rfl tM27ww (fun _ => rfl) rfl rfl (by omega) (by unfold maxLen; omega)) ?_
  rintro _ _ ⟨a34, c34, rfl, rfl⟩
  refine wl_det rfl rfl rfl (op_val (v' := .string (str x)) (by rw [hx]) (op_bytesStr rfl Try.underlying27 Try.underlying5 Try.underlying9 (Sl.lab 34 rfl (by first | (simp [maxLen]; done) | (rw [List.length_replicate]; unfold maxLen; omega))))) ?_
  refine wl_det rfl rfl rfl (op_assign rfl) ?_
  refine wl_nil ?_
  refine st_tn ?_
  refine w_seq ?_
  by_cases hbig : 65536 < k
  · -- hbig+
    rw [if_pos (by omega)] at happ
    refine w_region ?_
    refine wl_det rfl rfl rfl (op_move rfl) ?_
    refine wl_det rfl rfl rfl (op_move rfl) ?_
    refine wl_op [611] rfl rfl rfl rfl (op_fn Try.func14 rfl rfl rfl (lappend_to 611 (show appL newL x = ((0, 5), waitL []) from happ) okl_new (by omega))) ?_
    rintro _ _ ⟨rfl, rfl⟩
    refine wl_det rfl rfl rfl (op_move rfl) ?_
    refine wl_det rfl rfl rfl (op_extract rfl rfl) ?_
    refine wl_det rfl rfl rfl (op_extract rfl rfl) ?_
    refine wl_det rfl rfl rfl (op_assign rfl) ?_
    refine wl_det rfl rfl rfl (op_assign rfl) ?_
    refine wl_nil ?_
    refine st_tn ?_
    refine w_seq ?_
    refine w_region ?_
    refine wl_det rfl rfl rfl (op_assign rfl) ?_
    refine wl_nil ?_
    refine st_tn ?_
    refine w_seq ?_
    refine w_seq ?_
    refine w_region ?_
    refine wl_det rfl rfl rfl (op_move rfl) ?_
    refine wl_det rfl rfl rfl (op_val (v' := .int .i64 (k : Int)) (by rw [hxl]) (op_lenBs rfl Try.underlying9)) ?_
    refine wl_det rfl rfl rfl (op_val (v' := .bool true) (by rw [decide_eq_true (by omega)]) (op_gtr rfl rfl)) ?_
    refine wl_nil ?_
    refine st_tn ?_
    refine w_cond_t (rfl) ?_
    refine w_seq ?_
    refine w_seq ?_
    refine w_region ?_
    refine wl_det rfl rfl rfl (op_move rfl) ?_
    refine wl_det rfl rfl rfl (op_val (v' := .bool false) (by rfl) (op_neq rfl rfl)) ?_
    refine wl_det rfl rfl rfl (op_move rfl) ?_
    refine wl_wanted_det rfl rfl rfl rfl rfl rfl rfl (op_move rfl) ?_
    refine wl_wanted_det rfl rfl rfl rfl rfl rfl rfl (op_val (v' := .bool false) (by rfl) (op_neq rfl rfl)) ?_
    refine wl_det rfl rfl rfl (op_pick_f rfl rfl) ?_
    refine wl_nil ?_
    refine st_tn ?_
    refine w_cond_f (rfl) ?_
    refine w_skip ?_
    refine st_tn ?_
    refine w_region ?_
    refine wl_det rfl rfl rfl (op_assign rfl) ?_
    refine wl_nil ?_
    refine st_tn ?_
    refine w_seq ?_
    refine w_seq ?_
    refine w_region ?_
    refine wl_det rfl rfl rfl (op_move rfl) ?_
    refine wl_det rfl rfl rfl (op_assign rfl) ?_
    refine wl_nil ?_
    refine st_tn ?_
    refine w_block ?_
    refine w_loopQ (X := Nat × LBs) (fun z => z.1 ≤ cnt ∧ Wt0 z.2 z.1) (fun z => [(12, .int .i64 (z.1))]) (fun z => [(611, lgR b17 d17 [108, 111, 103] (waitL (z.2)))]) (fun z => cnt - z.1) ((0, [])) [(5, _), (6, _), (7, _)] [(601, _), (34, _)] [611, 601, 34] rfl (rfl) (.cons rfl (.nil _)) (.cons rfl (.cons rfl (.cons rfl (.nil _)))) (by
        try dsimp only
        exact ⟨Nat.zero_le _, ⟨by simp, by simp, by simp⟩⟩) ?_
    rintro ⟨i, P⟩ ⟨hi, hP⟩
    refine w_norm2 (by dsimp only [List.cons_append, List.nil_append]) (by dsimp only [List.cons_append, List.nil_append]) ?_
    try dsimp only at hi hP ⊢
    refine w_seq ?_
    refine w_seq ?_
    refine w_region ?_
    refine wl_det rfl rfl rfl (op_move rfl) ?_
    refine wl_det rfl rfl rfl (op_move rfl) ?_
    refine wl_det rfl rfl rfl (op_lss rfl rfl) ?_
    refine wl_nil ?_
    refine st_tn ?_
    refine w_cond_d rfl (fun hc60 => ?_) (fun hc60 => ?_)
    · -- c60.t
      refine w_skip ?_
      refine st_tn ?_
      refine w_seq ?_
      refine w_block ?_
      refine w_seq ?_
      by_cases hi6 : i < 256
      · -- hi6+
        have hap := wait_app hP
        rw [if_pos hi6] at hap
        refine w_region ?_
        refine wl_det rfl rfl rfl (op_move rfl) ?_
        refine wl_op [611] rfl rfl rfl rfl (op_fn Try.func14 rfl rfl rfl (lappend_to 611 hap (okl_wait hP) (by decide))) ?_
        rintro _ _ ⟨rfl, rfl⟩
        refine wl_det rfl rfl rfl (op_move rfl) ?_
        refine wl_det rfl rfl rfl (op_extract rfl rfl) ?_
        refine wl_det rfl rfl rfl (op_extract rfl rfl) ?_
        refine wl_det rfl rfl rfl (op_assign rfl) ?_
        refine wl_det rfl rfl rfl (op_assign rfl) ?_
        refine wl_nil ?_
        refine st_tn ?_
        refine w_seq ?_
        refine w_region ?_
        refine wl_det rfl rfl rfl (op_move rfl) ?_
        refine wl_det rfl rfl rfl (op_val (v' := .bool true) (by rw [decide_eq_true (by omega)]) (op_lss rfl rfl)) ?_
        refine wl_det rfl rfl rfl (op_move rfl) ?_
        refine wl_wanted_det rfl rfl rfl rfl rfl rfl rfl (op_move rfl) ?_
        refine wl_wanted_det rfl rfl rfl rfl rfl rfl rfl (op_val (v' := .bool false) (by rfl) (op_neq rfl rfl)) ?_
        refine wl_wanted_det rfl rfl rfl rfl rfl rfl rfl (op_move rfl) ?_
        refine wl_wanted_det rfl rfl rfl rfl rfl rfl rfl (op_move rfl) ?_
        refine wl_wanted_det rfl rfl rfl rfl rfl rfl rfl (op_move rfl) ?_
        refine wl_wanted_det rfl rfl rfl rfl rfl rfl rfl (op_add' rfl rfl (by omega)) ?_
        refine wl_wanted_det rfl rfl rfl rfl rfl rfl rfl (op_val (v' := .bool false) (by rw [decide_eq_false (fun h => h (by omega))]) (op_neq rfl rfl)) ?_
        refine wl_wanted_det rfl rfl rfl rfl rfl rfl rfl (op_pick_f rfl rfl) ?_
        refine wl_det rfl rfl rfl (op_pick_t rfl rfl) ?_
        refine wl_det rfl rfl rfl (op_move rfl) ?_
        refine wl_wanted_det rfl rfl rfl rfl rfl rfl rfl (op_move rfl) ?_
        refine wl_wanted_det rfl rfl rfl rfl rfl rfl rfl (op_val (v' := .bool false) (by rw [decide_eq_false (by omega)]) (op_geq rfl rfl)) ?_
        refine wl_wanted_det rfl rfl rfl rfl rfl rfl rfl (op_move rfl) ?_
        refine wl_unwanted rfl rfl rfl rfl rfl rfl rfl rfl ?_
        refine wl_unwanted rfl rfl rfl rfl rfl rfl rfl rfl ?_
        refine wl_wanted_det rfl rfl rfl rfl rfl rfl rfl (op_pick_f rfl rfl) ?_
        refine wl_det rfl rfl rfl (op_pick_f rfl rfl) ?_
        refine wl_nil ?_
        refine st_tn ?_
        refine w_cond_f (rfl) ?_
        refine w_skip ?_
        refine st_bn ?_
        refine st_tn ?_
        refine w_region ?_
        refine wl_det rfl rfl rfl (op_move rfl) ?_
        refine wl_det rfl rfl rfl (op_add' rfl rfl (by omega)) ?_
        refine wl_det rfl rfl rfl (op_assign rfl) ?_
        refine wl_nil ?_
        refine st_roundQ (x := (i, P)) ((i + 1, if i < 256 then P ++ [[114]] else P)) [611, 601, 34] rfl (rfl) (.cons rfl (.nil _)) (.cons rfl (.cons rfl (.cons rfl (.nil _)))) (by
            try dsimp only
            exact ⟨by omega, wait_next hP⟩) (by
            try dsimp only
            omega) 
      · -- hi6-
        have hap := wait_app hP
        rw [if_neg hi6] at hap
        refine w_region ?_
        refine wl_det rfl rfl rfl (op_move rfl) ?_
        refine wl_op [611] rfl rfl rfl rfl (op_fn Try.func14 rfl rfl rfl (lappend_to 611 hap (okl_wait hP) (by decide))) ?_
        rintro _ _ ⟨rfl, rfl⟩
        refine wl_det rfl rfl rfl (op_move rfl) ?_
        refine wl_det rfl rfl rfl (op_extract rfl rfl) ?_
        refine wl_det rfl rfl rfl (op_extract rfl rfl) ?_
        refine wl_det rfl rfl rfl (op_assign rfl) ?_
        refine wl_det rfl rfl rfl (op_assign rfl) ?_
        refine wl_nil ?_
        refine st_tn ?_
        refine w_seq ?_
        refine w_region ?_
        refine wl_det rfl rfl rfl (op_move rfl) ?_
        refine wl_det rfl rfl rfl (op_val (v' := .bool false) (by rw [decide_eq_false (by omega)]) (op_lss rfl rfl)) ?_
        refine wl_det rfl rfl rfl (op_move rfl) ?_
        refine wl_unwanted rfl rfl rfl rfl rfl rfl rfl rfl ?_
        refine wl_unwanted rfl rfl rfl rfl rfl rfl rfl rfl ?_
        refine wl_unwanted rfl rfl rfl rfl rfl rfl rfl rfl ?_
        refine wl_unwantedU rfl rfl rfl rfl rfl rfl rfl ?_
        refine wl_unwantedU rfl rfl rfl rfl rfl rfl rfl ?_
        refine wl_unwantedU rfl rfl rfl rfl rfl rfl rfl ?_
        refine wl_unwantedU rfl rfl rfl rfl rfl rfl rfl ?_
        refine wl_unwanted rfl rfl rfl rfl rfl rfl rfl rfl ?_
        refine wl_det rfl rfl rfl (op_pick_f rfl rfl) ?_
        refine wl_det rfl rfl rfl (op_move rfl) ?_
        refine wl_wanted_det rfl rfl rfl rfl rfl rfl rfl (op_move rfl) ?_
        refine wl_wanted_det rfl rfl rfl rfl rfl rfl rfl (op_val (v' := .bool true) (by rw [decide_eq_true (by omega)]) (op_geq rfl rfl)) ?_
        refine wl_wanted_det rfl rfl rfl rfl rfl rfl rfl (op_move rfl) ?_
        refine wl_wanted_det rfl rfl rfl rfl rfl rfl rfl (op_move rfl) ?_
        refine wl_wanted_det rfl rfl rfl rfl rfl rfl rfl (op_val (v' := .bool false) (by rfl) (op_neq rfl rfl)) ?_
        refine wl_wanted_det rfl rfl rfl rfl rfl rfl rfl (op_pick_t rfl rfl) ?_
        refine wl_det rfl rfl rfl (op_pick_f rfl rfl) ?_
        refine wl_nil ?_
        refine st_tn ?_
        refine w_cond_f (rfl) ?_
        refine w_skip ?_
        refine st_bn ?_
        refine st_tn ?_
        refine w_region ?_
        refine wl_det rfl rfl rfl (op_move rfl) ?_
        refine wl_det rfl rfl rfl (op_add' rfl rfl (by omega)) ?_
        refine wl_det rfl rfl rfl (op_assign rfl) ?_
        refine wl_nil ?_
        refine st_roundQ (x := (i, P)) ((i + 1, if i < 256 then P ++ [[114]] else P)) [611, 601, 34] rfl (rfl) (.cons rfl (.nil _)) (.cons rfl (.cons rfl (.cons rfl (.nil _)))) (by
            try dsimp only
            exact ⟨by omega, wait_next hP⟩) (by
            try dsimp only
            omega) 
    · -- c60.f
      have hic : i = cnt := by omega
      obtain ⟨s1, hcom, hg1, hO1, hL1, hd1⟩ := com_wait hP (by omega)
      have hPl := hP.len
      refine w_exit ?_
      refine st_te ?_
      refine st_te ?_
      refine st_be ?_
      refine st_tn ?_
      refine w_seq ?_
      refine w_region ?_
      refine wl_det rfl rfl rfl (op_move rfl) ?_
      refine wl_op [601, 611] rfl rfl rfl rfl (op_fn Try.func15 rfl rfl rfl (commit_to 601 611 hcom (okl_wait hP) (good_new (by decide)) (by decide) (by show 1 ≤ 999999; omega))) ?_
      rintro _ _ ⟨rfl, rfl⟩
      refine wl_det rfl rfl rfl (op_move rfl) ?_
      refine wl_det rfl rfl rfl (op_extract rfl rfl) ?_
      refine wl_det rfl rfl rfl (op_extract rfl rfl) ?_
      refine wl_det rfl rfl rfl (op_assign rfl) ?_
      refine wl_det rfl rfl rfl (op_assign rfl) ?_
      refine wl_nil ?_
      refine st_tn ?_
      refine w_seq ?_
      refine w_region ?_
      refine wl_det rfl rfl rfl (op_move rfl) ?_
      refine wl_op [601] rfl rfl rfl rfl (op_fn Try.func16 rfl rfl rfl (lopen_c (s := s1) (first := 1) (segs := [⟨1, [P]⟩]) 601 621 name_log hd1 hg1 hL1.seg hO1.holds (by have := hL1.sz; dsimp only at this; omega))) ?_
      rintro _ _ ⟨b94, rfl, rfl⟩
      refine wl_det rfl rfl rfl (op_move rfl) ?_
      refine wl_det rfl rfl rfl (op_extract rfl rfl) ?_
      refine wl_det rfl rfl rfl (op_extract rfl rfl) ?_
      refine wl_det rfl rfl rfl (op_assign rfl) ?_
      refine wl_det rfl rfl rfl (op_assign rfl) ?_
      refine wl_nil ?_
      refine st_tn ?_
      refine w_seq ?_
      refine w_region ?_
      refine wl_det rfl rfl rfl (op_move rfl) ?_
      refine wl_det rfl rfl rfl (op_val (v' := .bool true) (by rfl) (op_eql rfl rfl)) ?_
      refine wl_det rfl rfl rfl (op_move rfl) ?_
      refine wl_wanted_det rfl rfl rfl rfl rfl rfl rfl (op_move rfl) ?_
      refine wl_wanted_det rfl rfl rfl rfl rfl rfl rfl (op_val (v' := .bool true) (by rfl) (op_eql rfl rfl)) ?_
      refine wl_det rfl rfl rfl (op_pick_t rfl rfl) ?_
      refine wl_det rfl rfl rfl (op_move rfl) ?_
      refine wl_wanted_det rfl rfl rfl rfl rfl rfl rfl (op_move rfl) ?_
      refine wl_wanted_det rfl rfl rfl rfl rfl rfl rfl (op_move rfl) ?_
      refine wl_wanted_det rfl rfl rfl rfl rfl rfl rfl (op_min rfl rfl) ?_
      refine wl_wanted_det rfl rfl rfl rfl rfl rfl rfl (op_val (v' := .bool true) (by rw [decide_eq_true]; omega) (op_eql rfl rfl)) ?_
      refine wl_det rfl rfl rfl (op_pick_t rfl rfl) ?_
      refine wl_det rfl rfl rfl (op_move rfl) ?_
      refine wl_wanted_det rfl rfl rfl rfl rfl rfl rfl (op_move rfl) ?_
      refine wl_wanted [621] rfl rfl rfl rfl rfl rfl rfl rfl (op_fn Try.func17 rfl rfl rfl (llast_c (L := ⟨1, [⟨1, [P]⟩], [], true, false⟩) 621 (opened_ok hL1))) ?_
      rintro _ _ ⟨rfl, rfl⟩
      refine wl_wanted_det rfl rfl rfl rfl rfl rfl rfl (op_move rfl) ?_
      refine wl_wanted_det rfl rfl rfl rfl rfl rfl rfl (op_val (v' := .bool true) (by simp [lastN, allR, Sg.recs]) (op_eql rfl rfl)) ?_
      refine wl_det rfl rfl rfl (op_pick_t rfl rfl) ?_
      refine wl_det rfl rfl rfl (op_move rfl) ?_
      refine wl_wanted_det rfl rfl rfl rfl rfl rfl rfl (op_move rfl) ?_
      refine wl_wanted [621] rfl rfl rfl rfl rfl rfl rfl rfl (op_fn Try.func18 rfl rfl rfl (lsegm_c (L := ⟨1, [⟨1, [P]⟩], [], true, false⟩) 621 (opened_ok hL1) 118 (by decide))) ?_
      rintro _ _ ⟨a118, c118, rfl, rfl⟩
      refine wl_wanted_det rfl rfl rfl rfl rfl rfl rfl (op_lenT (enc := encT) (l := [fileN [108, 111, 103] 1]) rfl tS35ww (Sl.ent (Sl.lab (E := 9) (enc := encT) (l := [fileN [108, 111, 103] 1]) 118 rfl (by simp [maxLen])))) ?_
      refine wl_wanted_det rfl rfl rfl rfl rfl rfl rfl (op_val (v' := .bool true) (by rfl) (op_eql rfl rfl)) ?_
      refine wl_det rfl rfl rfl (op_pick_t rfl rfl) ?_
      refine wl_det rfl rfl rfl (op_assign rfl) ?_
      refine wl_nil ?_
      refine st_tn ?_
      refine w_ret ?_
      refine st_ret (vs := [_]) [] Try.results3 ⟨rfl, trivial⟩ rfl ?_
      refine ⟨_, rfl, ?_⟩
      exact ⟨rfl, rfl⟩
  · -- hbig-
    rw [if_neg (by omega)] at happ
    refine w_region ?_
    refine wl_det rfl rfl rfl (op_move rfl) ?_
    refine wl_det rfl rfl rfl (op_move rfl) ?_
    refine wl_op [611] rfl rfl rfl rfl (op_fn Try.func14 rfl rfl rfl (lappend_to 611 happ okl_new (by omega))) ?_
    rintro _ _ ⟨rfl, rfl⟩
    refine wl_det rfl rfl rfl (op_move rfl) ?_
    refine wl_det rfl rfl rfl (op_extract rfl rfl) ?_
    refine wl_det rfl rfl rfl (op_extract rfl rfl) ?_
    refine wl_det rfl rfl rfl (op_assign rfl) ?_
    refine wl_det rfl rfl rfl (op_assign rfl) ?_
    refine wl_nil ?_
    refine st_tn ?_
    refine w_seq ?_
    refine w_region ?_
    refine wl_det rfl rfl rfl (op_assign rfl) ?_
    refine wl_nil ?_
    refine st_tn ?_
    refine w_seq ?_
    refine w_seq ?_
    refine w_region ?_
    refine wl_det rfl rfl rfl (op_move rfl) ?_
    refine wl_det rfl rfl rfl (op_val (v' := .int .i64 (k : Int)) (by rw [hxl]) (op_lenBs rfl Try.underlying9)) ?_
    refine wl_det rfl rfl rfl (op_val (v' := .bool false) (by rw [decide_eq_false (by omega)]) (op_gtr rfl rfl)) ?_
    refine wl_nil ?_
    refine st_tn ?_
    refine w_cond_f (rfl) ?_
    refine w_seq ?_
    refine w_region ?_
    refine wl_det rfl rfl rfl (op_move rfl) ?_
    refine wl_det rfl rfl rfl (op_val (v' := .bool false) (by rfl) (op_neq rfl rfl)) ?_
    refine wl_det rfl rfl rfl (op_move rfl) ?_
    refine wl_wanted_det rfl rfl rfl rfl rfl rfl rfl (op_move rfl) ?_
    refine wl_wanted_det rfl rfl rfl rfl rfl rfl rfl (op_val (v' := .bool false) (by rfl) (op_neq rfl rfl)) ?_
    refine wl_det rfl rfl rfl (op_pick_f rfl rfl) ?_
    refine wl_nil ?_
    refine st_tn ?_
    refine w_cond_f (rfl) ?_
    refine w_skip ?_
    refine st_tn ?_
    refine w_seq ?_
    refine w_seq ?_
    refine w_region ?_
    refine wl_det rfl rfl rfl (op_move rfl) ?_
    refine wl_det rfl rfl rfl (op_assign rfl) ?_
    refine wl_nil ?_
    refine st_tn ?_
    refine w_block ?_
    refine w_loopQ (X := Nat × LBs) (fun z => z.1 ≤ cnt ∧ Wt0 z.2 z.1) (fun z => [(12, .int .i64 (z.1))]) (fun z => [(611, lgR b17 d17 [108, 111, 103] (waitL (z.2)))]) (fun z => cnt - z.1) ((1, [x])) [(5, _), (6, _), (7, _)] [(601, _), (34, _)] [611, 601, 34] rfl (rfl) (.cons rfl (.nil _)) (.cons rfl (.cons rfl (.cons rfl (.nil _)))) (by
        try dsimp only
        exact ⟨by omega, ⟨by simp, fun r hr => by rw [List.mem_singleton] at hr; subst hr; omega, by simp; omega⟩⟩) ?_
    rintro ⟨i, P⟩ ⟨hi, hP⟩
    refine w_norm2 (by dsimp only [List.cons_append, List.nil_append]) (by dsimp only [List.cons_append, List.nil_append]) ?_
    try dsimp only at hi hP ⊢
    refine w_seq ?_
    refine w_seq ?_
    refine w_region ?_
    refine wl_det rfl rfl rfl (op_move rfl) ?_
    refine wl_det rfl rfl rfl (op_move rfl) ?_
    refine wl_det rfl rfl rfl (op_lss rfl rfl) ?_
    refine wl_nil ?_
    refine st_tn ?_
    refine w_cond_d rfl (fun hc60 => ?_) (fun hc60 => ?_)
    · -- c60.t
      refine w_skip ?_
      refine st_tn ?_
      refine w_seq ?_
      refine w_block ?_
      refine w_seq ?_
      by_cases hi6 : i < 256
      · -- hi6+
        have hap := wait_app hP
        rw [if_pos hi6] at hap
        refine w_region ?_
        refine wl_det rfl rfl rfl (op_move rfl) ?_
        refine wl_op [611] rfl rfl rfl rfl (op_fn Try.func14 rfl rfl rfl (lappend_to 611 hap (okl_wait hP) (by decide))) ?_
        rintro _ _ ⟨rfl, rfl⟩
        refine wl_det rfl rfl rfl (op_move rfl) ?_
        refine wl_det rfl rfl rfl (op_extract rfl rfl) ?_
        refine wl_det rfl rfl rfl (op_extract rfl rfl) ?_
        refine wl_det rfl rfl rfl (op_assign rfl) ?_
        refine wl_det rfl rfl rfl (op_assign rfl) ?_
        refine wl_nil ?_
        refine st_tn ?_
        refine w_seq ?_
        refine w_region ?_
        refine wl_det rfl rfl rfl (op_move rfl) ?_
        refine wl_det rfl rfl rfl (op_val (v' := .bool true) (by rw [decide_eq_true (by omega)]) (op_lss rfl rfl)) ?_
        refine wl_det rfl rfl rfl (op_move rfl) ?_
        refine wl_wanted_det rfl rfl rfl rfl rfl rfl rfl (op_move rfl) ?_
        refine wl_wanted_det rfl rfl rfl rfl rfl rfl rfl (op_val (v' := .bool false) (by rfl) (op_neq rfl rfl)) ?_
        refine wl_wanted_det rfl rfl rfl rfl rfl rfl rfl (op_move rfl) ?_
        refine wl_wanted_det rfl rfl rfl rfl rfl rfl rfl (op_move rfl) ?_
        refine wl_wanted_det rfl rfl rfl rfl rfl rfl rfl (op_move rfl) ?_
        refine wl_wanted_det rfl rfl rfl rfl rfl rfl rfl (op_add' rfl rfl (by omega)) ?_
        refine wl_wanted_det rfl rfl rfl rfl rfl rfl rfl (op_val (v' := .bool false) (by rw [decide_eq_false (fun h => h (by omega))]) (op_neq rfl rfl)) ?_
        refine wl_wanted_det rfl rfl rfl rfl rfl rfl rfl (op_pick_f rfl rfl) ?_
        refine wl_det rfl rfl rfl (op_pick_t rfl rfl) ?_
        refine wl_det rfl rfl rfl (op_move rfl) ?_
        refine wl_wanted_det rfl rfl rfl rfl rfl rfl rfl (op_move rfl) ?_
        refine wl_wanted_det rfl rfl rfl rfl rfl rfl rfl (op_val (v' := .bool false) (by rw [decide_eq_false (by omega)]) (op_geq rfl rfl)) ?_
        refine wl_wanted_det rfl rfl rfl rfl rfl rfl rfl (op_move rfl) ?_
        refine wl_unwanted rfl rfl rfl rfl rfl rfl rfl rfl ?_
        refine wl_unwanted rfl rfl rfl rfl rfl rfl rfl rfl ?_
        refine wl_wanted_det rfl rfl rfl rfl rfl rfl rfl (op_pick_f rfl rfl) ?_
        refine wl_det rfl rfl rfl (op_pick_f rfl rfl) ?_
        refine wl_nil ?_
        refine st_tn ?_
        refine w_cond_f (rfl) ?_
        refine w_skip ?_
        refine st_bn ?_
        refine st_tn ?_
        refine w_region ?_
        refine wl_det rfl rfl rfl (op_move rfl) ?_
        refine wl_det rfl rfl rfl (op_add' rfl rfl (by omega)) ?_
        refine wl_det rfl rfl rfl (op_assign rfl) ?_
        refine wl_nil ?_
        refine st_roundQ (x := (i, P)) ((i + 1, if i < 256 then P ++ [[114]] else P)) [611, 601, 34] rfl (rfl) (.cons rfl (.nil _)) (.cons rfl (.cons rfl (.cons rfl (.nil _)))) (by
            try dsimp only
            exact ⟨by omega, wait_next hP⟩) (by
            try dsimp only
            omega) 
      · -- hi6-
        have hap := wait_app hP
        rw [if_neg hi6] at hap
        refine w_region ?_
        refine wl_det rfl rfl rfl (op_move rfl) ?_
        refine wl_op [611] rfl rfl rfl rfl (op_fn Try.func14 rfl rfl rfl (lappend_to 611 hap (okl_wait hP) (by decide))) ?_
        rintro _ _ ⟨rfl, rfl⟩
        refine wl_det rfl rfl rfl (op_move rfl) ?_
        refine wl_det rfl rfl rfl (op_extract rfl rfl) ?_
        refine wl_det rfl rfl rfl (op_extract rfl rfl) ?_
        refine wl_det rfl rfl rfl (op_assign rfl) ?_
        refine wl_det rfl rfl rfl (op_assign rfl) ?_
        refine wl_nil ?_
        refine st_tn ?_
        refine w_seq ?_
        refine w_region ?_
        refine wl_det rfl rfl rfl (op_move rfl) ?_
        refine wl_det rfl rfl rfl (op_val (v' := .bool false) (by rw [decide_eq_false (by omega)]) (op_lss rfl rfl)) ?_
        refine wl_det rfl rfl rfl (op_move rfl) ?_
        refine wl_unwanted rfl rfl rfl rfl rfl rfl rfl rfl ?_
        refine wl_unwanted rfl rfl rfl rfl rfl rfl rfl rfl ?_
        refine wl_unwanted rfl rfl rfl rfl rfl rfl rfl rfl ?_
        refine wl_unwantedU rfl rfl rfl rfl rfl rfl rfl ?_
        refine wl_unwantedU rfl rfl rfl rfl rfl rfl rfl ?_
        refine wl_unwantedU rfl rfl rfl rfl rfl rfl rfl ?_
        refine wl_unwantedU rfl rfl rfl rfl rfl rfl rfl ?_
        refine wl_unwanted rfl rfl rfl rfl rfl rfl rfl rfl ?_
        refine wl_det rfl rfl rfl (op_pick_f rfl rfl) ?_
        refine wl_det rfl rfl rfl (op_move rfl) ?_
        refine wl_wanted_det rfl rfl rfl rfl rfl rfl rfl (op_move rfl) ?_
        refine wl_wanted_det rfl rfl rfl rfl rfl rfl rfl (op_val (v' := .bool true) (by rw [decide_eq_true (by omega)]) (op_geq rfl rfl)) ?_
        refine wl_wanted_det rfl rfl rfl rfl rfl rfl rfl (op_move rfl) ?_
        refine wl_wanted_det rfl rfl rfl rfl rfl rfl rfl (op_move rfl) ?_
        refine wl_wanted_det rfl rfl rfl rfl rfl rfl rfl (op_val (v' := .bool false) (by rfl) (op_neq rfl rfl)) ?_
        refine wl_wanted_det rfl rfl rfl rfl rfl rfl rfl (op_pick_t rfl rfl) ?_
        refine wl_det rfl rfl rfl (op_pick_f rfl rfl) ?_
        refine wl_nil ?_
        refine st_tn ?_
        refine w_cond_f (rfl) ?_
        refine w_skip ?_
        refine st_bn ?_
        refine st_tn ?_
        refine w_region ?_
        refine wl_det rfl rfl rfl (op_move rfl) ?_
        refine wl_det rfl rfl rfl (op_add' rfl rfl (by omega)) ?_
        refine wl_det rfl rfl rfl (op_assign rfl) ?_
        refine wl_nil ?_
        refine st_roundQ (x := (i, P)) ((i + 1, if i < 256 then P ++ [[114]] else P)) [611, 601, 34] rfl (rfl) (.cons rfl (.nil _)) (.cons rfl (.cons rfl (.cons rfl (.nil _)))) (by
            try dsimp only
            exact ⟨by omega, wait_next hP⟩) (by
            try dsimp only
            omega) 
    · -- c60.f
      have hic : i = cnt := by omega
      obtain ⟨s1, hcom, hg1, hO1, hL1, hd1⟩ := com_wait hP (by omega)
      have hPl := hP.len
      refine w_exit ?_
      refine st_te ?_
      refine st_te ?_
      refine st_be ?_
      refine st_tn ?_
      refine w_seq ?_
      refine w_region ?_
      refine wl_det rfl rfl rfl (op_move rfl) ?_
      refine wl_op [601, 611] rfl rfl rfl rfl (op_fn Try.func15 rfl rfl rfl (commit_to 601 611 hcom (okl_wait hP) (good_new (by decide)) (by decide) (by show 1 ≤ 999999; omega))) ?_
      rintro _ _ ⟨rfl, rfl⟩
      refine wl_det rfl rfl rfl (op_move rfl) ?_
      refine wl_det rfl rfl rfl (op_extract rfl rfl) ?_
      refine wl_det rfl rfl rfl (op_extract rfl rfl) ?_
      refine wl_det rfl rfl rfl (op_assign rfl) ?_
      refine wl_det rfl rfl rfl (op_assign rfl) ?_
      refine wl_nil ?_
      refine st_tn ?_
      refine w_seq ?_
      refine w_region ?_
      refine wl_det rfl rfl rfl (op_move rfl) ?_
      refine wl_op [601] rfl rfl rfl rfl (op_fn Try.func16 rfl rfl rfl (lopen_c (s := s1) (first := 1) (segs := [⟨1, [P]⟩]) 601 621 name_log hd1 hg1 hL1.seg hO1.holds (by have := hL1.sz; dsimp only at this; omega))) ?_
      rintro _ _ ⟨b94, rfl, rfl⟩
      refine wl_det rfl rfl rfl (op_move rfl) ?_
      refine wl_det rfl rfl rfl (op_extract rfl rfl) ?_
      refine wl_det rfl rfl rfl (op_extract rfl rfl) ?_
      refine wl_det rfl rfl rfl (op_assign rfl) ?_
      refine wl_det rfl rfl rfl (op_assign rfl) ?_
      refine wl_nil ?_
      refine st_tn ?_
      refine w_seq ?_
      refine w_region ?_
      refine wl_det rfl rfl rfl (op_move rfl) ?_
      refine wl_det rfl rfl rfl (op_val (v' := .bool true) (by rfl) (op_eql rfl rfl)) ?_
      refine wl_det rfl rfl rfl (op_move rfl) ?_
      refine wl_wanted_det rfl rfl rfl rfl rfl rfl rfl (op_move rfl) ?_
      refine wl_wanted_det rfl rfl rfl rfl rfl rfl rfl (op_val (v' := .bool true) (by rfl) (op_eql rfl rfl)) ?_
      refine wl_det rfl rfl rfl (op_pick_t rfl rfl) ?_
      refine wl_det rfl rfl rfl (op_move rfl) ?_
      refine wl_wanted_det rfl rfl rfl rfl rfl rfl rfl (op_move rfl) ?_
      refine wl_wanted_det rfl rfl rfl rfl rfl rfl rfl (op_move rfl) ?_
      refine wl_wanted_det rfl rfl rfl rfl rfl rfl rfl (op_min rfl rfl) ?_
      refine wl_wanted_det rfl rfl rfl rfl rfl rfl rfl (op_val (v' := .bool true) (by rw [decide_eq_true]; omega) (op_eql rfl rfl)) ?_
      refine wl_det rfl rfl rfl (op_pick_t rfl rfl) ?_
      refine wl_det rfl rfl rfl (op_move rfl) ?_
      refine wl_wanted_det rfl rfl rfl rfl rfl rfl rfl (op_move rfl) ?_
      refine wl_wanted [621] rfl rfl rfl rfl rfl rfl rfl rfl (op_fn Try.func17 rfl rfl rfl (llast_c (L := ⟨1, [⟨1, [P]⟩], [], true, false⟩) 621 (opened_ok hL1))) ?_
      rintro _ _ ⟨rfl, rfl⟩
      refine wl_wanted_det rfl rfl rfl rfl rfl rfl rfl (op_move rfl) ?_
      refine wl_wanted_det rfl rfl rfl rfl rfl rfl rfl (op_val (v' := .bool true) (by simp [lastN, allR, Sg.recs]) (op_eql rfl rfl)) ?_
      refine wl_det rfl rfl rfl (op_pick_t rfl rfl) ?_
      refine wl_det rfl rfl rfl (op_move rfl) ?_
      refine wl_wanted_det rfl rfl rfl rfl rfl rfl rfl (op_move rfl) ?_
      refine wl_wanted [621] rfl rfl rfl rfl rfl rfl rfl rfl (op_fn Try.func18 rfl rfl rfl (lsegm_c (L := ⟨1, [⟨1, [P]⟩], [], true, false⟩) 621 (opened_ok hL1) 118 (by decide))) ?_
      rintro _ _ ⟨a118, c118, rfl, rfl⟩
      refine wl_wanted_det rfl rfl rfl rfl rfl rfl rfl (op_lenT (enc := encT) (l := [fileN [108, 111, 103] 1]) rfl tS35ww (Sl.ent (Sl.lab (E := 9) (enc := encT) (l := [fileN [108, 111, 103] 1]) 118 rfl (by simp [maxLen])))) ?_
      refine wl_wanted_det rfl rfl rfl rfl rfl rfl rfl (op_val (v' := .bool true) (by rfl) (op_eql rfl rfl)) ?_
      refine wl_det rfl rfl rfl (op_pick_t rfl rfl) ?_
      refine wl_det rfl rfl rfl (op_assign rfl) ?_
      refine wl_nil ?_
      refine st_tn ?_
      refine w_ret ?_
      refine st_ret (vs := [_]) [] Try.results3 ⟨rfl, trivial⟩ rfl ?_
      refine ⟨_, rfl, ?_⟩
      exact ⟨rfl, rfl⟩

end Go.Proofs.Ytcbigmgakdanjaa
