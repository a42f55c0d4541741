/- Laws: Makes, Runs; the opener of operations (layer 26). Conditions: none. -/
import Derived.Test.YtjlbeakdgadpmaaD14
import Derived.Test.YtjlbeakdgadpmaaSlD
namespace Go.Proofs.Ytjlbeakdgadpmaa
open Go Go.SL Go.RowKit Go.DskM
set_option linter.unusedVariables false
set_option linter.unusedSimpArgs false
theorem tA43o : aggB Try.prog 43 6 = true := by kernel_rfl
theorem tB36o : placesB Try.prog 36 = some ([(0, 1), (1, 1), (2, 1), (3, 1), (4, 1)], [Value.int .i64 0, Value.slice none 0 0, Value.bool false, Value.bool false, Value.int .i64 0]) := by kernel_rfl
theorem tS39o : sliceB Try.prog 39 43 6 = true := by kernel_rfl

/-- An operation of the law, with the address of its script. -/
structure OprA where
  x : Opr
  ax : Option Addr
  cx : Nat
def encOp (y : OprA) : List Value := [.int .u8 y.x.k, .int .u8 y.x.n, .int .u8 y.x.o, .string (str y.x.d), .int .i64 y.x.z, .slice y.ax y.x.sc.length y.cx]
def toD (y : OprA) : D := .row [.z .u8 y.x.k, .z .u8 y.x.n, .z .u8 y.x.o, .s (str y.x.d), .z .i64 y.x.z, .sl 1 y.ax y.cx (y.x.sc.map fun p => .z .i64 p)]
/-- The operations of a law's argument. -/
structure OkL (σ : World) (F : List Res) (a : Option Addr) (c : Nat) (L : List OprA) : Prop where
  sl : Sl σ F encOp 6 (.slice a L.length c) L
  ok : ∀ y ∈ L, OkO y.x
  sc : ∀ y ∈ L, Sl σ F SL.encZ 1 (.slice y.ax y.x.sc.length y.cx) y.x.sc
set_option maxRecDepth 100000 in
theorem open_ops {H : Type} {enc : TypeId × Value → H} {W : World} {v : Value} {d : DataW H} {p : List MemPlace} (hval : Value.okWide Try.prog W .any 0 39 v) (h : DataW.Trod enc Try.prog W 0 (fun _ => true) true 39 v d p) :
    ∃ (a1 : Option Addr) (c1 : Nat) (l1 : List OprA), v = .slice a1 l1.length c1 ∧ OkL W [whole W] a1 c1 l1 := by
  obtain ⟨a0, n0, c0, rfl⟩ := Go.WideShapes.okWide_slice Try.underlying39 hval
  obtain ⟨d, hd, hc, hdeep⟩ := open_Trod (s := .slice 6 (.row [.int .u8, .int .u8, .int .u8, .str, .int .i64, .slice 1 (.int .i64)])) (by kernel_rfl) h
  obtain ⟨a1, c1, l1, rfl, hl1⟩ := has_slice hd
  have hds : ∀ d ∈ l1, deepD W d := deepDs_iff.1 (by unfold deepD at hdeep; exact hdeep.2)
  obtain ⟨l1, rfl, hb1⟩ := of_all toD (fun y => OkO y.x ∧ Sl W [whole W] SL.encZ 1 (.slice y.ax y.x.sc.length y.cx) y.x.sc) l1 (fun d hd => by
      have hdd := hds d hd
      obtain ⟨ds, rfl, hds⟩ := has_row (hl1 d hd)
      obtain ⟨e1, r1, rfl, q1, hds⟩ := has_cons hds
      obtain ⟨e2, r2, rfl, q2, hds⟩ := has_cons hds
      obtain ⟨e3, r3, rfl, q3, hds⟩ := has_cons hds
      obtain ⟨e4, r4, rfl, q4, hds⟩ := has_cons hds
      obtain ⟨e5, r5, rfl, q5, hds⟩ := has_cons hds
      obtain ⟨e6, r6, rfl, q6, hds⟩ := has_cons hds
      obtain rfl := has_nil hds
      obtain ⟨x1, rfl, w1⟩ := has_int q1
      obtain ⟨x2, rfl, w2⟩ := has_int q2
      obtain ⟨x3, rfl, w3⟩ := has_int q3
      obtain ⟨x4, rfl, w4⟩ := has_str q4
      obtain ⟨x5, rfl, w5⟩ := has_int q5
      obtain ⟨a6, c6, l6, rfl, w6⟩ := has_slice q6
      obtain ⟨l6, rfl, hb6⟩ := of_all (fun p : Int => (.z .i64 p : D)) (fun p => (-9223372036854775808 ≤ p ∧ p ≤ 9223372036854775807)) l6 (fun d hd => by
        obtain ⟨y101, rfl, hy101⟩ := has_int (w6 d hd)
        exact ⟨y101, rfl, wf_i64 hy101⟩)
      have hd6 : deepD W (.sl 1 a6 c6 (l6.map fun p => .z .i64 p)) := by
        unfold deepD deepDs at hdd
        simp only [deepDs] at hdd
        exact hdd.2.2.2.2.2.1
      refine ⟨⟨⟨x1, x2, x3, x4.data.toList, x5, l6⟩, a6, c6⟩, ?_, ⟨⟨wf_u8 w1, wf_u8 w2, wf_u8 w3, ?_, wf_i64 w5⟩, Sl.conv (deep_sl hd6) (fun _ => rfl)⟩⟩
      · unfold toD; simp only [str_self]
      · rw [Array.length_toList]; exact w4)
  simp [Value.cells, encD] at hc
  obtain ⟨rfl, rfl, rfl⟩ := hc
  exact ⟨a0, c0, l1, by simp, ⟨Sl.conv (deep_sl hdeep) (fun y => by unfold toD encOp; simp [encD, encDs]), fun y hy => (hb1 y hy).1, fun y hy => (hb1 y hy).2⟩⟩
section
variable {P : Program} {σ : World} {n : Nat} {F : List Res} {e : Env} {R A B : RL} {ops : Array Oper} {rest : List Oper} {Q : Exit → Act → World → Prop} {K : Act → World → Prop}
theorem wl_openM {κ ν : Type} {kt : KT κ} {encV : ν → Value} {b : Nat} {l : List (κ × ν)} (lab : Nat) (ht : takeL R [lab] = some ([(lab, mp kt encV b l)], B)) (k : ∀ bs clock, WfM l bs clock → WL P σ n ops Q K rest e ((lab, mpE kt encV b l bs clock) :: B) F) : WL P σ n ops Q K rest e R F := fun a w hr ho => by
  have h1 : SL.Own σ (mp kt encV b l :: (rs B ++ F)) w := by simpa [rs] using ho.take ht
  obtain ⟨h2, h3, h4, ll, hl, hm, hd⟩ := h1
  cases ll with
  | nil => simp at hl
  | cons p ll =>
    obtain ⟨q, m⟩ := p
    simp only [List.map_cons, List.cons.injEq] at hl
    obtain ⟨rfl, hl⟩ := hl
    obtain ⟨⟨bs, clock, hmE⟩, hsub⟩ := hm (_, m) (List.mem_cons_self)
    refine k bs clock hmE.2 a w hr ⟨h2, h3, h4, (mpE kt encV b l bs clock, m) :: ll, by simp [rs, hl], fun p hp => ?_, ?_⟩
    · rcases List.mem_cons.1 hp with rfl | hp
      · exact ⟨hmE, hsub⟩
      · exact hm p (List.mem_cons_of_mem _ hp)
    · rw [List.pairwise_cons] at hd ⊢; exact hd
theorem wl_wk (lab : Nat) {r : Res} (r' : Res) (ht : takeL R [lab] = some ([(lab, r)], B)) (hi : ∀ m, r m → r' m) (k : WL P σ n ops Q K rest e ((lab, r') :: B) F) : WL P σ n ops Q K rest e R F := fun a w hr ho => by
  have h1 := ho.take ht
  exact k a w hr (Own.imp (F := rs B ++ F) (by simpa [rs] using h1) hi)
end
-- CALL sleuth/sleuthlaw26.capacity capac_any n (by assumption)
set_option maxHeartbeats 1000000 in
set_option maxRecDepth 100000 in
theorem lawMakes_any {σ : World} {F : List Res} (n : Int) : FnT Try.prog σ F 4 [.int .i64 n] [] (fun u ρ => u = .bool true ∧ ρ = []) := by
  refine fn_of 35 Try.func4 rfl Try.ntmps4 rfl ?_
  refine w_seq ?_
  refine w_region ?_
  refine wl_det rfl rfl rfl (op_assign rfl) ?_
  refine wl_nil ?_
  refine st_tn ?_
  refine w_seq ?_
  refine w_seq ?_
  refine w_region ?_
  refine wl_det rfl rfl rfl (op_fn Try.func14 rfl rfl rfl (known_any)) ?_
  refine wl_det rfl rfl rfl (op_not_t rfl) ?_
  refine wl_nil ?_
  refine st_tn ?_
  refine w_cond_f (rfl) ?_
  refine w_skip ?_
  refine st_tn ?_
  refine w_seq ?_
  by_cases hb : 0 ≤ n ∧ n ≤ 67108864
  · -- hb+
    refine w_region ?_
    refine wl_det rfl rfl rfl (op_move rfl) ?_
    refine wl_op [] rfl rfl rfl rfl (op_fn Try.func12 rfl rfl rfl (new_ok n 601 602 hb)) ?_
    rintro _ _ ⟨b3, m3, rfl, rfl⟩
    refine wl_det rfl rfl rfl (op_move rfl) ?_
    refine wl_det rfl rfl rfl (op_extract rfl rfl) ?_
    refine wl_det rfl rfl rfl (op_extract rfl rfl) ?_
    refine wl_det rfl rfl rfl (op_assign rfl) ?_
    refine wl_det rfl rfl rfl (op_assign rfl) ?_
    refine wl_nil ?_
    refine st_tn ?_
    refine w_seq ?_
    refine w_seq ?_
    refine w_region ?_
    refine wl_det rfl rfl rfl (op_move rfl) ?_
    refine wl_det rfl rfl rfl (op_val (v' := .bool false) (by simp; omega) (op_lss rfl rfl)) ?_
    refine wl_det rfl rfl rfl (op_move rfl) ?_
    refine wl_wanted_det rfl rfl rfl rfl rfl rfl rfl (op_move rfl) ?_
    refine wl_wanted_det rfl rfl rfl rfl rfl rfl rfl (op_val (v' := .bool false) (by simp; omega) (op_gtr rfl rfl)) ?_
    refine wl_det rfl rfl rfl (op_pick_f rfl rfl) ?_
    refine wl_nil ?_
    refine st_tn ?_
    refine w_cond_f (rfl) ?_
    refine w_skip ?_
    refine st_tn ?_
    refine w_seq ?_
    refine w_emp 604 (r := slW 51 encM 4 (.slice none 0 0) (newS n).fs) (slO_nil 51 4) ?_
    refine w_region ?_
    refine wl_det rfl rfl rfl (op_move rfl) ?_
    refine wl_det rfl rfl rfl (op_build tB36o rfl rfl) ?_
    refine wl_op [] rfl rfl rfl rfl (op_box (T := 36) (l := 603) rfl) ?_
    rintro _ _ ⟨b27, rfl, rfl⟩
    refine wl_det rfl rfl rfl (op_assign rfl) ?_
    refine wl_nil ?_
    refine st_tn ?_
    refine w_seq ?_
    refine w_openM 602 rfl (fun bs ck hwf => ?_)
    refine w_region ?_
    refine wl_det rfl rfl rfl (op_move rfl) ?_
    refine wl_det rfl rfl rfl (op_val (v' := .bool true) (by simp) (op_eql rfl rfl)) ?_
    refine wl_det rfl rfl rfl (op_move rfl) ?_
    refine wl_wanted_det rfl rfl rfl rfl rfl rfl rfl (op_move rfl) ?_
    refine wl_wanted_det rfl rfl rfl rfl rfl rfl rfl (op_move rfl) ?_
    refine wl_wanted_det rfl rfl rfl rfl rfl rfl rfl (op_fn Try.func18 rfl rfl rfl (agrees_any (s := newS n) (m2 := m3) (good_new hb) (List.Perm.refl _) (celS (l := 603) (a := none) (m := 0) (c := 0) rfl) (Sl.lab 604 rfl (by simp [newS, maxLen])) (celD 601 rfl) (Me.lab 602 rfl))) ?_
    refine wl_det rfl rfl rfl (op_pick_t rfl rfl) ?_
    refine wl_det rfl rfl rfl (op_assign rfl) ?_
    refine wl_nil ?_
    refine st_tn ?_
    refine w_ret ?_
    refine st_ret (vs := [_]) [] Try.results4 ⟨rfl, trivial⟩ rfl ?_
    refine ⟨_, rfl, ?_⟩
    exact ⟨rfl, rfl⟩
  · -- hb-
    refine w_region ?_
    refine wl_det rfl rfl rfl (op_move rfl) ?_
    refine wl_det rfl rfl rfl (op_fn Try.func12 rfl rfl rfl (new_err n hb)) ?_
    refine wl_det rfl rfl rfl (op_move rfl) ?_
    refine wl_det rfl rfl rfl (op_extract rfl rfl) ?_
    refine wl_det rfl rfl rfl (op_extract rfl rfl) ?_
    refine wl_det rfl rfl rfl (op_assign rfl) ?_
    refine wl_det rfl rfl rfl (op_assign rfl) ?_
    refine wl_nil ?_
    refine st_tn ?_
    refine w_seq ?_
    refine w_seq ?_
    refine w_region ?_
    refine wl_det rfl rfl rfl (op_move rfl) ?_
    refine wl_det rfl rfl rfl (op_lss rfl rfl) ?_
    refine wl_det rfl rfl rfl (op_move rfl) ?_
    refine wl_gsplit (t := 15) rfl (fun hg15 => ?_) (fun hg15 => ?_)
    · -- 15 is True
      refine wl_unwanted rfl rfl rfl rfl rfl rfl rfl rfl ?_
      refine wl_unwanted rfl rfl rfl rfl rfl rfl rfl rfl ?_
      refine wl_det rfl rfl rfl (op_pick_t rfl rfl) ?_
      refine wl_nil ?_
      refine st_tn ?_
      refine w_cond_t (rfl) ?_
      refine w_seq ?_
      refine w_region ?_
      refine wl_det rfl rfl rfl (op_move rfl) ?_
      refine wl_det rfl rfl rfl (op_val (v' := .bool true) (by simp) (op_eqPtr rfl Try.underlying22)) ?_
      refine wl_det rfl rfl rfl (op_move rfl) ?_
      refine wl_wanted_det rfl rfl rfl rfl rfl rfl rfl (op_move rfl) ?_
      refine wl_wanted_det rfl rfl rfl rfl rfl rfl rfl (op_val (v' := .bool true) (by simp) (op_eql rfl rfl)) ?_
      refine wl_det rfl rfl rfl (op_pick_t rfl rfl) ?_
      refine wl_det rfl rfl rfl (op_assign rfl) ?_
      refine wl_nil ?_
      refine st_tn ?_
      refine w_ret ?_
      refine st_tr ?_
      refine st_ret (vs := [_]) [] Try.results4 ⟨rfl, trivial⟩ rfl ?_
      refine ⟨_, rfl, ?_⟩
      exact ⟨rfl, rfl⟩
    · -- 15 is False
      refine wl_wanted_det rfl rfl rfl rfl rfl rfl rfl (op_move rfl) ?_
      refine wl_wanted_det rfl rfl rfl rfl rfl rfl rfl (op_gtr rfl rfl) ?_
      refine wl_det rfl rfl rfl (op_pick_f rfl rfl) ?_
      refine wl_nil ?_
      refine st_tn ?_
      refine w_cond_d rfl (fun hc18 => ?_) (fun hc18 => ?_)
      · -- c18.t
        refine w_seq ?_
        refine w_region ?_
        refine wl_det rfl rfl rfl (op_move rfl) ?_
        refine wl_det rfl rfl rfl (op_val (v' := .bool true) (by simp) (op_eqPtr rfl Try.underlying22)) ?_
        refine wl_det rfl rfl rfl (op_move rfl) ?_
        refine wl_wanted_det rfl rfl rfl rfl rfl rfl rfl (op_move rfl) ?_
        refine wl_wanted_det rfl rfl rfl rfl rfl rfl rfl (op_val (v' := .bool true) (by simp) (op_eql rfl rfl)) ?_
        refine wl_det rfl rfl rfl (op_pick_t rfl rfl) ?_
        refine wl_det rfl rfl rfl (op_assign rfl) ?_
        refine wl_nil ?_
        refine st_tn ?_
        refine w_ret ?_
        refine st_tr ?_
        refine st_ret (vs := [_]) [] Try.results4 ⟨rfl, trivial⟩ rfl ?_
        refine ⟨_, rfl, ?_⟩
        exact ⟨rfl, rfl⟩
      · -- c18.f
        omega

set_option maxHeartbeats 2000000 in
set_option maxRecDepth 100000 in
theorem lawRuns_any {σ : World} {F : List Res} {a : Option Addr} {c : Nat} {L : List OprA} (n : Int) (hn : 0 ≤ n ∧ n ≤ 255) (hL : OkL σ F a c L) : FnT Try.prog σ F 8 [.int .u8 n, .slice a L.length c] [] (fun u ρ => u = .bool true ∧ ρ = []) := by
  refine fn_of 49 Try.func8 rfl Try.ntmps8 rfl ?_
  have hsl := hL.sl
  have hle := hsl.i64
  refine w_seq ?_
  refine w_region ?_
  refine wl_det rfl rfl rfl (op_assign rfl) ?_
  refine wl_nil ?_
  refine st_tn ?_
  refine w_seq ?_
  refine w_region ?_
  refine wl_det rfl rfl rfl (op_move rfl) ?_
  refine wl_det rfl rfl rfl (op_fn Try.func13 rfl rfl rfl (capac_any n (by assumption))) ?_
  refine wl_op [] rfl rfl rfl rfl (op_fn Try.func12 rfl rfl rfl (new_ok (20 + n) 601 602 (by omega))) ?_
  rintro _ _ ⟨b9, m9, rfl, rfl⟩
  refine wl_det rfl rfl rfl (op_move rfl) ?_
  refine wl_det rfl rfl rfl (op_extract rfl rfl) ?_
  refine wl_det rfl rfl rfl (op_extract rfl rfl) ?_
  refine wl_det rfl rfl rfl (op_assign rfl) ?_
  refine wl_det rfl rfl rfl (op_assign rfl) ?_
  refine wl_nil ?_
  refine st_tn ?_
  refine w_seq ?_
  refine w_seq ?_
  refine w_region ?_
  refine wl_det rfl rfl rfl (op_fn Try.func14 rfl rfl rfl (known_any)) ?_
  refine wl_det rfl rfl rfl (op_not_t rfl) ?_
  refine wl_det rfl rfl rfl (op_move rfl) ?_
  refine wl_wanted_det rfl rfl rfl rfl rfl rfl rfl (op_move rfl) ?_
  refine wl_wanted_det rfl rfl rfl rfl rfl rfl rfl (op_val (v' := .bool false) (by rfl) (op_neq rfl rfl)) ?_
  refine wl_det rfl rfl rfl (op_pick_f rfl rfl) ?_
  refine wl_nil ?_
  refine st_tn ?_
  refine w_cond_f (rfl) ?_
  refine w_skip ?_
  refine st_tn ?_
  refine w_seq ?_
  refine w_emp 604 (r := slW 51 encM 4 (.slice none 0 0) (newS (20 + n)).fs) (slO_nil 51 4) ?_
  refine w_region ?_
  refine wl_det rfl rfl rfl (op_move rfl) ?_
  refine wl_det rfl rfl rfl (op_fn Try.func13 rfl rfl rfl (capac_any n (by assumption))) ?_
  refine wl_det rfl rfl rfl (op_build tB36o rfl rfl) ?_
  refine wl_op [] rfl rfl rfl rfl (op_box (T := 36) (l := 603) rfl) ?_
  rintro _ _ ⟨b24, rfl, rfl⟩
  refine wl_det rfl rfl rfl (op_assign rfl) ?_
  refine wl_nil ?_
  refine st_tn ?_
  refine w_seq ?_
  refine w_seq ?_
  refine w_region ?_
  refine wl_det rfl rfl rfl (op_assign rfl) ?_
  refine wl_nil ?_
  refine st_tn ?_
  refine w_block ?_
  refine w_loopQ (X := Nat × DskM.St × DskM.Files × Option Addr × Nat × Nat) (fun z => z.1 ≤ L.length ∧ DskM.Good z.2.1 ∧ z.2.2.1.Perm z.2.1.fs) (fun z => [(8, .int .i64 (z.1))]) (fun z => [(601, cel b9 (cellD (z.2.1) m9) 65), (602, mp KL encF m9 (z.2.2.1)), (603, cel b24 (cellS (z.2.1) (z.2.2.2.1) (z.2.2.2.2.1) (z.2.2.2.2.2)) 36), (604, slW 51 encM 4 (.slice (z.2.2.2.1) (z.2.2.2.2.1) (z.2.2.2.2.2)) (z.2.1).fs)]) (fun z => L.length - z.1) ((0, newS (20 + n), [], none, 0, 0)) [(1, _), (5, _), (7, _)] [] [601, 602, 603, 604] rfl (rfl) (.cons rfl (.nil _)) (.cons rfl (.cons rfl (.cons rfl (.nil _)))) (by
      try dsimp only
      exact ⟨Nat.zero_le _, good_new (by omega), List.Perm.refl _⟩) ?_
  rintro ⟨i, S, l_S, a_S, m_S, c_S⟩ ⟨hi, hg, hp⟩
  refine w_norm2 (by dsimp only [List.cons_append, List.nil_append]) (by dsimp only [List.cons_append, List.nil_append]) ?_
  try dsimp only at hi hg hp ⊢
  refine w_seq ?_
  refine w_seq ?_
  refine w_region ?_
  refine wl_det rfl rfl rfl (op_move rfl) ?_
  refine wl_det rfl rfl rfl (op_move rfl) ?_
  refine wl_det rfl rfl rfl (op_lenT rfl tS39o (Sl.ent (by first | exact Sl.app (by assumption) _ | exact Sl.app (Sl.app (by assumption) _) _))) ?_
  refine wl_det rfl rfl rfl (op_lss rfl rfl) ?_
  refine wl_det rfl rfl rfl (op_move rfl) ?_
  refine wl_gsplit (t := 29) rfl (fun hg29 => ?_) (fun hg29 => ?_)
  · -- 29 is True
    obtain ⟨y, hy⟩ := getE (l := L) (i := i) (by omega)
    have hym := List.mem_of_getElem? hy
    have hgg := Good.perf hg (hL.ok y hym)
    refine wl_wanted_det rfl rfl rfl rfl rfl rfl rfl (op_move rfl) ?_
    refine wl_wanted_det rfl rfl rfl rfl rfl rfl rfl (op_lss rfl rfl) ?_
    refine wl_det rfl rfl rfl (op_pick_t rfl rfl) ?_
    refine wl_nil ?_
    refine st_tn ?_
    refine w_cond rfl (fun hc32 => ?_) (fun hc32 => ?_)
    · -- c32.t
      refine w_skip ?_
      refine st_tn ?_
      refine w_seq ?_
      refine w_block ?_
      refine w_seq ?_
      refine w_region ?_
      refine wl_det rfl rfl rfl (op_move rfl) ?_
      refine wl_det rfl rfl rfl (op_move rfl) ?_
      refine wl_det rfl rfl rfl (op_move rfl) ?_
      refine wl_det rfl rfl rfl (op_move rfl) ?_
      refine wl_det rfl rfl rfl (op_idx rfl rfl tS39o (Sl.ent (by first | exact Sl.app (by assumption) _ | exact Sl.app (Sl.app (by assumption) _) _)) (by omega)) ?_
      refine wl_det rfl rfl rfl (op_ldxA rfl tA43o (by first | exact Sl.app (by assumption) _ | exact Sl.app (Sl.app (by assumption) _) _) (by assumption) (by rfl) (by rfl)) ?_
      refine wl_op [601, 602, 603, 604] rfl rfl rfl rfl (op_fn Try.func24 rfl rfl rfl (perform_any (x := y.x) hg hp (hL.ok y hym) (Sl.app (hL.sc y hym) _))) ?_
      rintro _ _ ⟨rfl, l41, a41, m41, c41, hp41, rfl⟩
      refine wl_det rfl rfl rfl (op_not_t rfl) ?_
      refine wl_det rfl rfl rfl (op_move rfl) ?_
      refine wl_wanted_det rfl rfl rfl rfl rfl rfl rfl (op_move rfl) ?_
      refine wl_wanted_det rfl rfl rfl rfl rfl rfl rfl (op_move rfl) ?_
      refine wl_openM 602 rfl (fun bs ck hwf => ?_)
      refine wl_wanted_det rfl rfl rfl rfl rfl rfl rfl (op_fn Try.func18 rfl rfl rfl (agrees_any hgg hp41 (celS (l := 603) rfl) (Sl.lab 604 rfl (by have := hgg.cnt; unfold maxLen; omega)) (celD 601 rfl) (Me.lab 602 rfl))) ?_
      refine wl_wanted_det rfl rfl rfl rfl rfl rfl rfl (op_not_t rfl) ?_
      refine wl_det rfl rfl rfl (op_pick_f rfl rfl) ?_
      refine wl_wk 602 (mp KL encF m9 l41) rfl mpE_mp ?_
      refine wl_nil ?_
      refine st_tn ?_
      refine w_cond_f (rfl) ?_
      refine w_skip ?_
      refine st_bn ?_
      refine st_tn ?_
      refine w_region ?_
      refine wl_det rfl rfl rfl (op_move rfl) ?_
      refine wl_det rfl rfl rfl (op_add' rfl rfl (by omega)) ?_
      refine wl_det rfl rfl rfl (op_assign rfl) ?_
      refine wl_nil ?_
      refine st_roundQ (x := (i, S, l_S, a_S, m_S, c_S)) ((i + 1, perfS S y.x, l41, a41, m41, c41)) [601, 602, 603, 604] rfl (rfl) (.cons rfl (.nil _)) (.cons rfl (.cons rfl (.cons rfl (.nil _)))) (by
          try dsimp only
          exact ⟨by omega, hgg, hp41⟩) (by
          try dsimp only
          omega) 
    · -- c32.f
      refine w_exit ?_
      refine st_te ?_
      refine st_te ?_
      refine st_be ?_
      refine st_tn ?_
      refine w_seq ?_
      refine w_region ?_
      refine wl_det rfl rfl rfl (op_assign rfl) ?_
      refine wl_nil ?_
      refine st_tn ?_
      refine w_ret ?_
      refine st_ret (vs := [_]) [] Try.results8 ⟨rfl, trivial⟩ rfl ?_
      refine ⟨_, rfl, ?_⟩
      exact ⟨rfl, rfl⟩
  · -- 29 is False
    refine wl_unwanted rfl rfl rfl rfl rfl rfl rfl rfl ?_
    refine wl_unwanted rfl rfl rfl rfl rfl rfl rfl rfl ?_
    refine wl_det rfl rfl rfl (op_pick_f rfl rfl) ?_
    refine wl_nil ?_
    refine st_tn ?_
    refine w_cond_f (rfl) ?_
    refine w_exit ?_
    refine st_te ?_
    refine st_te ?_
    refine st_be ?_
    refine st_tn ?_
    refine w_seq ?_
    refine w_region ?_
    refine wl_det rfl rfl rfl (op_assign rfl) ?_
    refine wl_nil ?_
    refine st_tn ?_
    refine w_ret ?_
    refine st_ret (vs := [_]) [] Try.results8 ⟨rfl, trivial⟩ rfl ?_
    refine ⟨_, rfl, ?_⟩
    exact ⟨rfl, rfl⟩

end Go.Proofs.Ytjlbeakdgadpmaa
