/- Contracts: the reference's potentials, parts of systems (layer 9). Conditions: none. -/
import Derived.Test.YtgdjnjbipemdcaaK15
namespace Go.Proofs.Ytgdjnjbipemdcaa
open Go Go.SL Go.RowKit Go.ConM
set_option linter.unusedVariables false
set_option linter.unusedSimpArgs false
theorem tA34p : aggB Try.prog 34 3 = true := by kernel_rfl
theorem tF34_0p : fieldB Try.prog 34 0 0 = true := by kernel_rfl
theorem tL24_1p : zerosB Try.prog 24 34 3 1 = some [Value.int .i64 0, Value.int .i64 0, Value.int .i64 0] := by kernel_rfl
theorem tM26p : makeB Try.prog 26 3 8 = some (Value.int .i64 0) := by kernel_rfl
theorem tM84p : makeB Try.prog 84 4 1 = some (Value.bool false) := by kernel_rfl
theorem tMixp : Try.prog.follows .mixedOrders = true := by kernel_rfl
theorem tO3p : oneB Try.prog 3 = true := by kernel_rfl
theorem tO4p : oneB Try.prog 4 = true := by kernel_rfl
theorem tP24p : appB Try.prog 24 34 3 24 = true := by kernel_rfl
theorem tS24p : sliceB Try.prog 24 34 3 = true := by kernel_rfl
theorem tS26p : sliceB Try.prog 26 3 1 = true := by kernel_rfl
theorem tS84p : sliceB Try.prog 84 4 1 = true := by kernel_rfl

theorem rrelax_l {σ : World} {F : List Res} {a b a501 a502 : Option Addr} {c d c501 c502 : Nat} {l : List Con} {ns : List Int} (lv lh : Nat) (f : Lbl) (m : Int) (h : Sl σ F encC 3 (.slice a l.length c) l) (k : Sl σ F SL.encZ 1 (.slice b ns.length d) ns) (hl : Small l) (hn : ns.Nodup) (hns : ∀ c ∈ l, c.f ∈ ns ∧ c.t ∈ ns) (hnl : ns.length ≤ 1048576) (hf : BdF m f) (hm : 0 ≤ m ∧ m ≤ 1099511627776) :
      FnT Try.prog σ F 52 [.slice a l.length c, .slice b ns.length d, .slice a501 ns.length c501, .slice a502 ns.length c502] [(lv, slW 3 SL.encZ 1 (.slice a501 ns.length c501) (valV ns f)), (lh, slW 4 encB 1 (.slice a502 ns.length c502) (hasV ns f))]
        (fun u ρ => u = .bool (relF l (f, false)).2 ∧ ρ = [(lv, slW 3 SL.encZ 1 (.slice a501 ns.length c501) (valV ns (relF l (f, false)).1)), (lh, slW 4 encB 1 (.slice a502 ns.length c502) (hasV ns (relF l (f, false)).1))]) :=
  fn_lab (rrelax_any f m h k hl hn hns hnl hf hm) rfl fun u ρ ⟨h1, h2⟩ => ⟨_, ⟨h1, rfl⟩, by rw [h2]; rfl⟩
theorem bdF_RF {l : List Con} {f : Lbl} (h : BdF 0 f) (hl : Small l) : ∀ k : Nat, BdF (4194304 * k) (RF l f k)
  | 0 => fun k x hx => by have := h k x hx; omega
  | k + 1 => by
    have := bdF_rel (b := false) (bdF_RF h hl k) hl.1 l.length (Nat.le_refl _)
    rw [List.take_length] at this
    have hl2 := hl.2
    intro q x hq
    have := this q x hq
    omega
theorem bd_zero (S : List Int) : BdF 0 (zeroF S) := fun k x h => by unfold zeroF at h; split at h <;> simp at h; omega
instance (l : List Con) (f : Lbl) : Decidable (StF l f) := by unfold StF; exact inferInstance
instance (l : List Con) : Decidable (Feas l) := by unfold Feas; exact inferInstance
def potL (l : List Con) : List Int := if Feas l then valV (nodes l) (potF l) else []
theorem nodes_in {l : List Con} : ∀ c ∈ l, c.f ∈ nodes l ∧ c.t ∈ nodes l := fun c hc => ⟨mem_nodes.2 ⟨c, hc, .inl rfl⟩, mem_nodes.2 ⟨c, hc, .inr rfl⟩⟩
theorem has_zero {ns : List Int} {H : List Bool} (h : ∀ j, j < ns.length → H[j]? = some true) (hl : H.length = ns.length) : H = hasV ns (zeroF ns) := by
  apply List.ext_getElem?
  intro j
  unfold hasV
  rw [List.getElem?_map]
  by_cases hj : j < ns.length
  · rw [h j hj, List.getElem?_eq_getElem hj]
    simp [zeroF, List.getElem_mem]
  · rw [List.getElem?_eq_none (by omega), List.getElem?_eq_none (by omega)]; rfl
theorem val_zero (ns S : List Int) : List.replicate ns.length (0 : Int) = valV ns (zeroF S) := by
  unfold valV
  rw [← List.map_const']
  exact List.map_congr_left fun x _ => by unfold zeroF; split <;> rfl
set_option maxHeartbeats 4000000 in
set_option maxRecDepth 100000 in
theorem pot_any {σ : World} {F : List Res} {a : Option Addr} {c : Nat} {l : List Con} (lab : Nat) (h : Sl σ F encC 3 (.slice a l.length c) l) (hl : Small l) (hb : InB l) :
    FnT Try.prog σ F 31 [.slice a l.length c] [] (fun u ρ => ∃ a c, u = .tuple #[.slice a (potL l).length c, .bool (decide (Feas l))] ∧ ρ = [(lab, slW 3 SL.encZ 1 (.slice a (potL l).length c) (potL l))]) := by
  refine fn_of 43 Try.func31 rfl Try.ntmps31 rfl ?_
  have hle := h.i64
  have hl2 := hl.2
  have hnl := len_nodes l
  have hnd := (nodes_ss l).nodup
  obtain ⟨ns, hns⟩ : ∃ ns, ns = nodes l := ⟨_, rfl⟩
  rw [← hns] at hnl hnd
  refine w_seq ?_
  refine w_region ?_
  refine wl_det rfl rfl rfl (op_assign rfl) ?_
  refine wl_det rfl rfl rfl (op_assign rfl) ?_
  refine wl_nil ?_
  refine st_tn ?_
  refine w_seq ?_
  refine w_region ?_
  refine wl_det rfl rfl rfl (op_move rfl) ?_
  refine wl_op [] rfl rfl rfl rfl (op_fn Try.func32 rfl rfl rfl (rnodes_any 10 (by first | exact Sl.app (by assumption) _ | exact Sl.app (Sl.app (by assumption) _) _) (by assumption) (by omega))) ?_
  rintro _ _ ⟨a10, c10, rfl, rfl⟩
  refine wl_det rfl rfl rfl (op_assign rfl) ?_
  refine wl_nil ?_
  refine st_tn ?_
  refine w_seq ?_
  rw [← hns]
  refine w_drawW (fun β => [⟨11, [], [], [], noW (_), false, [], []⟩, ⟨12, [0], [], [], noW (_), false, [], []⟩, ⟨13, [1], [], [], fun w => DetW _ _, false, [], []⟩, ⟨14, [], [], [], noW (_), false, [], []⟩, ⟨15, [3], [], [], noW (_), false, [], []⟩, ⟨16, [4], [], [], fun w => DetW _ _, false, [], []⟩, ⟨5, [2], [], [], noW (_), false, [], []⟩]) [] [4] [⟨11, [], [], false, [], []⟩, ⟨12, [0], [], false, [], []⟩, ⟨13, [1], [], false, [], []⟩, ⟨14, [], [], false, [], []⟩, ⟨15, [3], [], false, [], []⟩, ⟨16, [4], [], false, [], []⟩, ⟨5, [2], [], false, [], []⟩] [[], [], [], [], [], [], [2]] [[], [], [], [], [], [], []] tMixp (fun _ => by rfl) (fun _ => by rfl) (by kernel_rfl) (by kernel_rfl) (by rfl) (by rfl)
      (fun β => ⟨.p rfl (by intro X; exact op_move rfl),
      ⟨.p rfl (by intro X; rintro _ _ ⟨rfl, rfl⟩; exact op_lenT rfl tS26p (Sl.ent (Sl.lab 10 rfl (by unfold maxLen; omega)))),
      ⟨.px rfl (by intro X; rintro _ _ ⟨rfl, rfl⟩; refine OpT.mono (op_makeSlice (enc := SL.encZ) (a0 := 0) (lab := 13) rfl rfl tM26p (fun _ => rfl) rfl rfl (by omega) (by unfold maxLen; omega)) ?_; rintro _ _ ⟨a13, c13, rfl, rfl⟩; obtain ⟨w, rfl, rfl⟩ : ∃ w : Wt, w.a = a13 ∧ w.c = c13 := ⟨{ a := a13, c := c13 }, rfl, rfl⟩; exact ⟨w, rfl, rfl⟩),
      ⟨.p rfl (by intro X; exact op_move rfl),
      ⟨.p rfl (by intro X; rintro _ _ ⟨rfl, rfl⟩; exact op_lenT rfl tS26p (Sl.ent (Sl.lab 10 rfl (by unfold maxLen; omega)))),
      ⟨.px rfl (by intro X; rintro _ _ ⟨rfl, rfl⟩; refine OpT.mono (op_makeSlice (enc := encB) (a0 := false) (lab := 16) rfl rfl tM84p (fun _ => rfl) rfl rfl (by omega) (by unfold maxLen; omega)) ?_; rintro _ _ ⟨a16, c16, rfl, rfl⟩; obtain ⟨w, rfl, rfl⟩ : ∃ w : Wt, w.a = a16 ∧ w.c = c16 := ⟨{ a := a16, c := c16 }, rfl, rfl⟩; exact ⟨w, rfl, rfl⟩),
      ⟨.p rfl (by intro X; rintro _ _ ⟨rfl, rfl⟩; exact op_assign rfl),
      trivial⟩⟩⟩⟩⟩⟩⟩)
      (fun β β' => ⟨fun _ => by rfl, ⟨fun _ => by rfl, ⟨fun _ => by rfl, ⟨fun _ => by rfl, ⟨fun _ => by rfl, ⟨fun _ => by rfl, ⟨fun h => by first | rfl | (simp only [h 2 (by decide)]), trivial⟩⟩⟩⟩⟩⟩⟩) ?_
  intro β
  rintro _ _ ⟨rfl, rfl⟩ _ _ ⟨rfl, rfl⟩ _ _ ⟨rfl, rfl⟩ _ _ ⟨rfl, rfl⟩ _ _ ⟨rfl, rfl⟩ _ _ ⟨rfl, rfl⟩ _ _ ⟨rfl, rfl⟩
  generalize (β 2).a = a13
  generalize (β 2).c = c13
  generalize (β 5).a = a16
  generalize (β 5).c = c16
  refine wl_norm (e' := [(0, _), (4, _), (5, _), (16, _)]) (.cons rfl (.cons rfl (.cons rfl (.cons rfl (.nil _))))) (by dsimp only [cond_false, cond_true, List.nil_append, List.cons_append]) ?_
  refine wl_det rfl rfl rfl (op_assign rfl) ?_
  refine wl_nil ?_
  refine st_tn ?_
  refine w_seq ?_
  refine w_seq ?_
  simp only [List.length_replicate]
  refine w_region ?_
  refine wl_det rfl rfl rfl (op_assign rfl) ?_
  refine wl_nil ?_
  refine st_tn ?_
  refine w_block ?_
  refine w_loopQ (X := Nat × List Bool) (fun z => z.1 ≤ ns.length ∧ z.2.length = ns.length ∧ ∀ j, j < ns.length → z.2[j]? = some (decide (j < z.1))) (fun z => [(7, .int .i64 (z.1))]) (fun z => [(16, slW 4 encB 1 (.slice a16 (ns.length) c16) (z.2))]) (fun z => ns.length - z.1) ((0, List.replicate ns.length false)) [(0, _), (4, _), (5, _), (6, _)] [(10, _), (13, _)] [16, 10, 13] rfl (rfl) (.cons rfl (.nil _)) (.cons rfl (.cons rfl (.cons rfl (.cons rfl (.nil _))))) (by
      try dsimp only
      exact ⟨Nat.zero_le _, by simp, fun j hj => by rw [List.getElem?_replicate, if_pos hj]; simp⟩) ?_
  rintro ⟨i, H⟩ ⟨hi, hHl, hH⟩
  refine w_norm2 (by dsimp only [List.cons_append, List.nil_append]) (by dsimp only [List.cons_append, List.nil_append]) ?_
  try dsimp only at hi hHl hH ⊢
  refine w_seq ?_
  refine w_seq ?_
  refine w_region ?_
  refine wl_det rfl rfl rfl (op_move rfl) ?_
  refine wl_det rfl rfl rfl (op_move rfl) ?_
  refine wl_det rfl rfl rfl (op_lenT rfl tS26p (Sl.ent (Sl.lab 10 rfl (by unfold maxLen; omega)))) ?_
  refine wl_det rfl rfl rfl (op_lss rfl rfl) ?_
  refine wl_nil ?_
  refine st_tn ?_
  refine w_cond_d rfl (fun hc20 => ?_) (fun hc20 => ?_)
  · -- c20.t
    have hHi := hH i (by omega)
    refine w_skip ?_
    refine st_tn ?_
    refine w_seq ?_
    refine w_block ?_
    refine w_region ?_
    refine wl_det rfl rfl rfl (op_move rfl) ?_
    refine wl_det rfl rfl rfl (op_move rfl) ?_
    refine wl_det rfl rfl rfl (op_idx rfl rfl tS84p (Sl.ent (Sl.lab 16 rfl (by unfold maxLen; omega))) (by omega)) ?_
    refine wl_op0 [16] rfl rfl rfl (op_storeX (lab := 16) (j := 0) rfl rfl tO4p rfl rfl (by rfl) (by first | assumption | (simp [*]; done)) (Nat.le_of_ble_eq_true rfl) (by rfl)) ?_
    rintro _ _ ⟨rfl, rfl⟩
    refine wl_nil ?_
    refine st_bn ?_
    refine st_tn ?_
    refine w_region ?_
    refine wl_det rfl rfl rfl (op_move rfl) ?_
    refine wl_det rfl rfl rfl (op_add' rfl rfl (by omega)) ?_
    refine wl_det rfl rfl rfl (op_assign rfl) ?_
    refine wl_nil ?_
    refine st_roundQ (x := (i, H)) ((i + 1, _)) [16, 10, 13] rfl (rfl) (.cons rfl (.nil _)) (.cons rfl (.cons rfl (.cons rfl (.cons rfl (.nil _))))) (by
        try dsimp only
        refine ⟨by omega, by rw [List.length_set]; exact hHl, fun j hj => ?_⟩; rw [List.getElem?_set]; split; (· rename_i e; subst e; rw [if_pos (by omega)]; simp); (· rename_i e; rw [hH j hj]; congr 1; rw [decide_eq_decide]; omega)) (by
        try dsimp only
        omega) 
  · -- c20.f
    refine w_exit ?_
    refine st_te ?_
    refine st_te ?_
    refine st_be ?_
    refine st_tn ?_
    refine w_seq ?_
    refine w_seq ?_
    have hi2 : i = ns.length := by omega
    have hH2 : H = hasV ns (zeroF ns) := has_zero (fun j hj => by rw [hH j hj]; simp; omega) hHl
    rw [hH2, val_zero ns ns]
    refine w_region ?_
    refine wl_det rfl rfl rfl (op_assign rfl) ?_
    refine wl_nil ?_
    refine st_tn ?_
    refine w_block ?_
    refine w_loopQ (X := Nat × List Int × List Bool) (fun z => z.1 ≤ ns.length ∧ z.2.1 = valV ns (RF l (zeroF ns) z.1) ∧ z.2.2 = hasV ns (RF l (zeroF ns) z.1)) (fun z => [(8, .int .i64 (z.1))]) (fun z => [(13, slW 3 SL.encZ 1 (.slice a13 (ns.length) c13) (z.2.1)), (16, slW 4 encB 1 (.slice a16 (ns.length) c16) (z.2.2))]) (fun z => ns.length - z.1) ((0, valV ns (zeroF ns), hasV ns (zeroF ns))) [(0, _), (4, _), (5, _), (6, _)] [(10, _)] [13, 16, 10] rfl (rfl) (.cons rfl (.nil _)) (.cons rfl (.cons rfl (.cons rfl (.cons rfl (.nil _))))) (by
        try dsimp only
        exact ⟨Nat.zero_le _, rfl, rfl⟩) ?_
    rintro ⟨i, V, H⟩ ⟨hi, hV, hH⟩
    refine w_norm2 (by dsimp only [List.cons_append, List.nil_append]) (by dsimp only [List.cons_append, List.nil_append]) ?_
    try dsimp only at hi hV hH ⊢
    refine w_seq ?_
    refine w_seq ?_
    refine w_region ?_
    refine wl_det rfl rfl rfl (op_move rfl) ?_
    refine wl_det rfl rfl rfl (op_move rfl) ?_
    refine wl_det rfl rfl rfl (op_lenT rfl tS26p (Sl.ent (Sl.lab 10 rfl (by unfold maxLen; omega)))) ?_
    refine wl_det rfl rfl rfl (op_lss rfl rfl) ?_
    refine wl_nil ?_
    refine st_tn ?_
    refine w_cond_d rfl (fun hc29 => ?_) (fun hc29 => ?_)
    · -- c29.t
      subst hV
      subst hH
      refine w_skip ?_
      refine st_tn ?_
      refine w_seq ?_
      refine w_block ?_
      refine w_region ?_
      refine wl_det rfl rfl rfl (op_move rfl) ?_
      refine wl_det rfl rfl rfl (op_move rfl) ?_
      refine wl_det rfl rfl rfl (op_move rfl) ?_
      refine wl_det rfl rfl rfl (op_move rfl) ?_
      refine wl_op [13,16] rfl rfl rfl rfl (op_fn Try.func52 rfl rfl rfl (rrelax_l 13 16 (RF l (zeroF ns) i) (4194304 * i) (Sl.app h _) (Sl.lab 10 rfl (by unfold maxLen; omega)) hl hnd (by rw [hns]; exact nodes_in) (by omega) (bdF_RF (bd_zero _) hl i) (by omega))) ?_
      rintro _ _ ⟨rfl, rfl⟩
      refine wl_nil ?_
      refine st_bn ?_
      refine st_tn ?_
      refine w_region ?_
      refine wl_det rfl rfl rfl (op_move rfl) ?_
      refine wl_det rfl rfl rfl (op_add' rfl rfl (by omega)) ?_
      refine wl_det rfl rfl rfl (op_assign rfl) ?_
      refine wl_nil ?_
      refine st_roundQ (x := (i, valV ns (RF l (zeroF ns) i), hasV ns (RF l (zeroF ns) i))) ((i + 1, valV ns (RF l (zeroF ns) (i + 1)), hasV ns (RF l (zeroF ns) (i + 1)))) [13, 16, 10] rfl (rfl) (.cons rfl (.nil _)) (.cons rfl (.cons rfl (.cons rfl (.cons rfl (.nil _))))) (by
          try dsimp only
          exact ⟨by omega, rfl, rfl⟩) (by
          try dsimp only
          omega) 
    · -- c29.f
      refine w_exit ?_
      refine st_te ?_
      refine st_te ?_
      refine st_be ?_
      refine st_tn ?_
      refine w_seq ?_
      refine w_seq ?_
      have hi3 : i = ns.length := by omega
      subst hi3
      subst hV
      subst hH
      refine w_region ?_
      refine wl_det rfl rfl rfl (op_move rfl) ?_
      refine wl_det rfl rfl rfl (op_move rfl) ?_
      refine wl_det rfl rfl rfl (op_move rfl) ?_
      refine wl_det rfl rfl rfl (op_move rfl) ?_
      refine wl_op [13,16] rfl rfl rfl rfl (op_fn Try.func52 rfl rfl rfl (rrelax_l 13 16 (RF l (zeroF ns) ns.length) (4194304 * (ns.length : Nat)) (Sl.app h _) (Sl.lab 10 rfl (by unfold maxLen; omega)) hl hnd (by rw [hns]; exact nodes_in) (by omega) (bdF_RF (bd_zero _) hl ns.length) (by omega))) ?_
      rintro _ _ ⟨rfl, rfl⟩
      refine wl_nil ?_
      refine st_tn ?_
      refine w_cond rfl (fun hc41 => ?_) (fun hc41 => ?_)
      · -- c41.t
        refine w_emp 77 (slO_nil 3 1) ?_
        have hnf : ¬ Feas l := fun hf => by unfold Feas at hf; rw [← hns] at hf; have := (relF_iff _ _).2 hf; rw [hc41] at this; simp at this
        refine w_seq ?_
        refine w_region ?_
        refine wl_det rfl rfl rfl (op_assign rfl) ?_
        refine wl_det rfl rfl rfl (op_assign rfl) ?_
        refine wl_nil ?_
        refine st_tn ?_
        refine w_ret ?_
        refine st_tr ?_
        refine st_ret (vs := [_, _]) [77] Try.results31 ⟨rfl, ⟨rfl, trivial⟩⟩ rfl ?_
        refine ⟨[(lab, _)], rfl, ?_⟩
        have h2 : potL l = [] := by unfold potL; rw [if_neg hnf]
        rw [h2, decide_eq_false hnf]; exact ⟨none, 0, rfl, rfl⟩
      · -- c41.f
        have hf : Feas l := by unfold Feas; rw [← hns]; exact (relF_iff _ _).1 (by simpa using hc41)
        refine w_skip ?_
        refine st_tn ?_
        refine w_seq ?_
        refine w_region ?_
        refine wl_det rfl rfl rfl (op_move rfl) ?_
        refine wl_det rfl rfl rfl (op_assign rfl) ?_
        refine wl_det rfl rfl rfl (op_assign rfl) ?_
        refine wl_nil ?_
        refine st_tn ?_
        refine w_ret ?_
        refine st_ret (vs := [_, _]) [13] Try.results31 ⟨rfl, ⟨rfl, trivial⟩⟩ rfl ?_
        refine ⟨[(lab, _)], rfl, ?_⟩
        have h2 : potL l = valV ns (relF l (RF l (zeroF ns) ns.length, false)).1 := by unfold potL potF; rw [if_pos hf, ← hns, relF_st (by unfold Feas at hf; rw [← hns] at hf; exact hf)]
        rw [h2, decide_eq_true hf, valV_len]; exact ⟨_, _, rfl, rfl⟩

set_option maxHeartbeats 400000 in
set_option maxRecDepth 100000 in
theorem feas_any {σ : World} {F : List Res} {a : Option Addr} {c : Nat} {l : List Con} (h : Sl σ F encC 3 (.slice a l.length c) l) (hl : Small l) (hb : InB l) :
    FnT Try.prog σ F 19 [.slice a l.length c] [] (fun u ρ => u = .bool (decide (Feas l)) ∧ ρ = []) := by
  refine fn_of 11 Try.func19 rfl Try.ntmps19 rfl ?_
  refine w_seq ?_
  refine w_region ?_
  refine wl_det rfl rfl rfl (op_assign rfl) ?_
  refine wl_nil ?_
  refine st_tn ?_
  refine w_seq ?_
  refine w_region ?_
  refine wl_det rfl rfl rfl (op_move rfl) ?_
  refine wl_op [] rfl rfl rfl rfl (op_fn Try.func31 rfl rfl rfl (pot_any 7 (by first | exact Sl.app (by assumption) _ | exact Sl.app (Sl.app (by assumption) _) _) (by assumption) (by assumption))) ?_
  rintro _ _ ⟨a7, c7, rfl, rfl⟩
  refine wl_det rfl rfl rfl (op_move rfl) ?_
  refine wl_det rfl rfl rfl (op_extract rfl rfl) ?_
  refine wl_det rfl rfl rfl (op_extract rfl rfl) ?_
  refine wl_det rfl rfl rfl (op_assign rfl) ?_
  refine wl_det rfl rfl rfl (op_assign rfl) ?_
  refine wl_nil ?_
  refine st_tn ?_
  refine w_seq ?_
  refine w_region ?_
  refine wl_det rfl rfl rfl (op_move rfl) ?_
  refine wl_det rfl rfl rfl (op_assign rfl) ?_
  refine wl_nil ?_
  refine st_tn ?_
  refine w_ret ?_
  refine st_ret (vs := [_]) [] Try.results19 ⟨rfl, trivial⟩ rfl ?_
  refine ⟨_, rfl, ?_⟩
  exact ⟨rfl, rfl⟩

set_option maxHeartbeats 1000000 in
set_option maxRecDepth 100000 in
theorem within_any {σ : World} {F : List Res} {a b : Option Addr} {c d : Nat} {l : List Con} {C : List Int} (lab : Nat) (h : Sl σ F encC 3 (.slice a l.length c) l) (k : Sl σ F SL.encZ 1 (.slice b C.length d) C) (hl : l.length ≤ 1048576) :
    FnT Try.prog σ F 41 [.slice a l.length c, .slice b C.length d] [] (fun u ρ => ∃ a c, u = .slice a (l.filter fun c => decide (c.f ∈ C)).length c ∧ ρ = [(lab, slW 34 encC 3 (.slice a (l.filter fun c => decide (c.f ∈ C)).length c) (l.filter fun c => decide (c.f ∈ C)))]) := by
  refine fn_of 28 Try.func41 rfl Try.ntmps41 rfl ?_
  have hle := h.i64
  refine w_seq ?_
  refine w_region ?_
  refine wl_det rfl rfl rfl (op_assign rfl) ?_
  refine wl_nil ?_
  refine st_tn ?_
  refine w_seq ?_
  refine w_region ?_
  refine wl_det rfl rfl rfl (op_assign rfl) ?_
  refine wl_nil ?_
  refine st_tn ?_
  refine w_seq ?_
  refine w_seq ?_
  refine w_region ?_
  refine wl_det rfl rfl rfl (op_assign rfl) ?_
  refine wl_nil ?_
  refine st_tn ?_
  refine w_block ?_
  refine w_emp 5 (slO_nil 34 3) ?_
  refine w_loopQ (X := Nat × List Con × Option Addr × Nat) (fun z => z.1 ≤ l.length ∧ z.2.1 = (l.take z.1).filter fun c => decide (c.f ∈ C)) (fun z => [(6, .int .i64 (z.1)), (5, .slice (z.2.2.1) (z.2.1).length (z.2.2.2))]) (fun z => [(5, slW 34 encC 3 (.slice (z.2.2.1) (z.2.1).length (z.2.2.2)) (z.2.1))]) (fun z => l.length - z.1) ((0, [], none, 0)) [(0, _), (1, _)] [] [5] rfl (rfl) (.cons rfl (.cons rfl (.nil _))) (.cons rfl (.cons rfl (.nil _))) (by
      try dsimp only
      exact ⟨Nat.zero_le _, rfl⟩) ?_
  rintro ⟨i, out, a_out, c_out⟩ ⟨hi, ho⟩
  refine w_norm2 (by dsimp only [List.cons_append, List.nil_append]) (by dsimp only [List.cons_append, List.nil_append]) ?_
  try dsimp only at hi ho ⊢
  refine w_seq ?_
  refine w_seq ?_
  refine w_region ?_
  refine wl_det rfl rfl rfl (op_move rfl) ?_
  refine wl_det rfl rfl rfl (op_move rfl) ?_
  refine wl_det rfl rfl rfl (op_lenT rfl tS24p (Sl.ent (by first | exact Sl.app (by assumption) _ | exact Sl.app (Sl.app (by assumption) _) _))) ?_
  refine wl_det rfl rfl rfl (op_lss rfl rfl) ?_
  refine wl_nil ?_
  refine st_tn ?_
  refine w_cond_d rfl (fun hc10 => ?_) (fun hc10 => ?_)
  · -- c10.t
    obtain ⟨x, hx⟩ := getE (l := l) (i := i) (by omega)
    have hlt := ltE hx
    have hol : out.length ≤ l.length := by have h1 := List.length_filter_le (fun c => decide (c.f ∈ C)) (l.take i); rw [← ho, List.length_take] at h1; omega
    refine w_skip ?_
    refine st_tn ?_
    refine w_seq ?_
    refine w_block ?_
    refine w_seq ?_
    refine w_region ?_
    refine wl_det rfl rfl rfl (op_move rfl) ?_
    refine wl_det rfl rfl rfl (op_move rfl) ?_
    refine wl_det rfl rfl rfl (op_move rfl) ?_
    refine wl_det rfl rfl rfl (op_idx rfl rfl tS24p (Sl.ent (by first | exact Sl.app (by assumption) _ | exact Sl.app (Sl.app (by assumption) _) _)) (by omega)) ?_
    refine wl_det rfl rfl rfl (op_fieldAddr (off := 0) rfl tF34_0p) ?_
    refine wl_det rfl rfl rfl (op_ldxf rfl tO3p (by first | exact Sl.app (by assumption) _ | exact Sl.app (Sl.app (by assumption) _) _) (by assumption) (by rfl)) ?_
    refine wl_det rfl rfl rfl (op_fn Try.func50 rfl rfl rfl (has_any _ (by first | exact Sl.app (by assumption) _ | exact Sl.app (Sl.app (by assumption) _) _))) ?_
    refine wl_nil ?_
    refine st_tn ?_
    refine w_cond_d rfl (fun hc19 => ?_) (fun hc19 => ?_)
    · -- c19.t
      refine w_region ?_
      refine wl_det rfl rfl rfl (op_move rfl) ?_
      refine wl_det rfl rfl rfl (op_move rfl) ?_
      refine wl_det rfl rfl rfl (op_move rfl) ?_
      refine wl_det rfl rfl rfl (op_idx rfl rfl tS24p (Sl.ent (by first | exact Sl.app (by assumption) _ | exact Sl.app (Sl.app (by assumption) _) _)) (by omega)) ?_
      refine wl_det rfl rfl rfl (op_ldxA rfl tA34p (by first | exact Sl.app (by assumption) _ | exact Sl.app (Sl.app (by assumption) _) _) (by assumption) (by rfl) (by rfl)) ?_
      refine wl_op [] rfl rfl rfl rfl (op_buildSlice (enc := encC) (l := [x]) (lab := 25) tL24_1p rfl rfl (fun _ => rfl) rfl) ?_
      rintro _ _ ⟨a25, c25, rfl, rfl⟩
      refine wl_op [5] rfl rfl rfl rfl (op_append (lab := 5) (lab' := 26) rfl rfl tP24p enc1C (Sl.lab 25 rfl (by simp [maxLen])) (by simp; omega) (by simp; omega)) ?_
      rintro _ _ ⟨a26, c26, rfl, rfl⟩
      refine wl_det rfl rfl rfl (op_assign rfl) ?_
      refine wl_nil ?_
      refine st_bn ?_
      refine st_tn ?_
      refine w_region ?_
      refine wl_det rfl rfl rfl (op_move rfl) ?_
      refine wl_det rfl rfl rfl (op_add' rfl rfl (by omega)) ?_
      refine wl_det rfl rfl rfl (op_assign rfl) ?_
      refine wl_nil ?_
      refine st_roundQ (x := (i, out, a_out, c_out)) ((i + 1, _, _, _)) [26] rfl (rfl) (.cons rfl (.cons rfl (.nil _))) (.cons rfl (.cons rfl (.nil _))) (by
          try dsimp only
          exact ⟨by omega, by rw [take_snoc hx, List.filter_append, ho, List.filter_cons_of_pos (by simpa using hc19), List.filter_nil]⟩) (by
          try dsimp only
          omega) 
    · -- c19.f
      refine w_skip ?_
      refine st_bn ?_
      refine st_tn ?_
      refine w_region ?_
      refine wl_det rfl rfl rfl (op_move rfl) ?_
      refine wl_det rfl rfl rfl (op_add' rfl rfl (by omega)) ?_
      refine wl_det rfl rfl rfl (op_assign rfl) ?_
      refine wl_nil ?_
      refine st_roundQ (x := (i, out, a_out, c_out)) ((i + 1, _, _, _)) [5] rfl (rfl) (.cons rfl (.cons rfl (.nil _))) (.cons rfl (.cons rfl (.nil _))) (by
          try dsimp only
          exact ⟨by omega, by rw [take_snoc hx, List.filter_append, ho, List.filter_cons_of_neg (by simpa using hc19), List.filter_nil, List.append_nil]⟩) (by
          try dsimp only
          omega) 
  · -- c10.f
    refine w_exit ?_
    refine st_te ?_
    refine st_te ?_
    refine st_be ?_
    refine st_tn ?_
    refine w_seq ?_
    rw [take_all (by omega)] at ho
    refine w_region ?_
    refine wl_det rfl rfl rfl (op_move rfl) ?_
    refine wl_det rfl rfl rfl (op_assign rfl) ?_
    refine wl_nil ?_
    refine st_tn ?_
    refine w_ret ?_
    refine st_ret (vs := [_]) [5] Try.results41 ⟨rfl, trivial⟩ rfl ?_
    refine ⟨[(lab, _)], rfl, ?_⟩
    rw [← ho]; exact ⟨_, _, rfl, rfl⟩

end Go.Proofs.Ytgdjnjbipemdcaa
