/- Contracts: the search, components, copies of maps, assignments (layer 9). Conditions: none. -/
import Derived.Test.YtgdjnjbipemdcaaK3
namespace Go.Proofs.Ytgdjnjbipemdcaa
open Go Go.SL Go.RowKit Go.ConM
set_option linter.unusedVariables false
set_option linter.unusedSimpArgs false
theorem tA34d : aggB Try.prog 34 3 = true := by kernel_rfl
theorem tA74d : aggB Try.prog 74 2 = true := by kernel_rfl
theorem tB74d : placesB Try.prog 74 = some ([(0, 1), (1, 1)], [Value.map none, Value.map none]) := by kernel_rfl
theorem tF34_0d : fieldB Try.prog 34 0 0 = true := by kernel_rfl
theorem tF34_1d : fieldB Try.prog 34 1 1 = true := by kernel_rfl
theorem tF74_0d : fieldB Try.prog 74 0 0 = true := by kernel_rfl
theorem tMixd : Try.prog.follows .mixedOrders = true := by kernel_rfl
theorem tN34d : (Try.prog.info? 34).bind (·.zero) = some (Value.agg #[Value.int .i64 0, Value.int .i64 0, Value.int .i64 0]) := by kernel_rfl
theorem tN4d : (Try.prog.info? 4).bind (·.zero) = some (Value.bool false) := by kernel_rfl
theorem tN74d : (Try.prog.info? 74).bind (·.zero) = some (Value.agg #[Value.map none, Value.map none]) := by kernel_rfl
theorem tO24d : oneB Try.prog 24 = true := by kernel_rfl
theorem tO3d : oneB Try.prog 3 = true := by kernel_rfl
theorem tO72d : oneB Try.prog 72 = true := by kernel_rfl
theorem tQ72d : mapB Try.prog 72 3 3 KZ.desc := ⟨Try.underlying72, Try.underlying3⟩
theorem tQ90d : mapB Try.prog 90 3 4 KZ.desc := ⟨Try.underlying90, Try.underlying3⟩
theorem tS24d : sliceB Try.prog 24 34 3 = true := by kernel_rfl
theorem tS26d : sliceB Try.prog 26 3 1 = true := by kernel_rfl
theorem tZ34d : (Try.prog.info? 34).map (·.size) = some 3 := by kernel_rfl
theorem tZ74d : (Try.prog.info? 74).map (·.size) = some 2 := by kernel_rfl

theorem relax_any {σ : World} {F : List Res} {bl bp bu bL bB : Nat} {a : Option Addr} {c : Nat} {l : List Con} {g : Nat} {fs cs : List Value} {use : Nat → Bool} (l1 l2 : Nat) (s : St) (m : Int) (hbl : Ent σ F (At ⟨bl, 0, none⟩ [.slice a l.length c])) (h : Sl σ F encC 3 (.slice a l.length c) l)
      (hbp : Ent σ F (At ⟨bp, 0, none⟩ [.map (some bL), .map (some bB)])) (hbu : Ent σ F (At ⟨bu, 0, none⟩ [.func (.func g) fs.toArray cs.toArray])) (hu : UseF σ F l.length g fs cs use) (hl : Small l) (hs : Bd m s) (hm : 0 ≤ m ∧ m ≤ 1099511627776) :
      FnT Try.prog σ F 65 [.pointer (some ⟨bl, 0, none⟩), .pointer (some ⟨bp, 0, none⟩), .pointer (some ⟨bu, 0, none⟩)] [(l1, mp KZ encVZ bL s.L), (l2, mp KZ encVZ bB s.B)]
        (fun u ρ => u = .int .i64 (relax use l s).2 ∧ ρ = [(l1, mp KZ encVZ bL (relax use l s).1.L), (l2, mp KZ encVZ bB (relax use l s).1.B)]) :=
  fn_lab (relax0 s m hbl h hbp hbu hu hl hs hm) rfl fun u ρ ⟨h1, h2⟩ => ⟨_, ⟨h1, rfl⟩, by rw [h2]; rfl⟩
set_option maxHeartbeats 400000 in
set_option maxRecDepth 100000 in
theorem all_any {σ : World} {F : List Res} (i : Int) :
    FnT Try.prog σ F 44 [.int .i64 i] [] (fun u ρ => u = .bool true ∧ ρ = []) := by
  refine fn_of 3 Try.func44 rfl Try.ntmps44 rfl ?_
  refine w_seq ?_
  refine w_region ?_
  refine wl_det rfl rfl rfl (op_assign rfl) ?_
  refine wl_nil ?_
  refine st_tn ?_
  refine w_seq ?_
  refine w_region ?_
  refine wl_det rfl rfl rfl (op_assign rfl) ?_
  refine wl_nil ?_
  refine st_tn ?_
  refine w_ret ?_
  refine st_ret (vs := [_]) [] Try.results44 ⟨rfl, trivial⟩ rfl ?_
  refine ⟨_, rfl, ?_⟩
  exact ⟨rfl, rfl⟩

theorem bne_t {p q : Prop} [Decidable p] [Decidable q] : (decide p != decide q) = true ↔ ¬ (p ↔ q) := by by_cases hp : p <;> by_cases hq : q <;> simp [hp, hq]
theorem useAll {σ : World} {F : List Res} (n : Nat) : UseF σ F n 44 [] [] (fun _ => true) := ⟨⟨_, Try.func44, rfl, rfl⟩, fun X i _ => all_any i⟩
theorem bd_relax {use : Nat → Bool} {l : List Con} {s : St} {k : Int} (h : Bd (k * 4194304) s) (hl : Small l) (hk : 0 ≤ k) : Bd ((k + 1) * 4194304) (relax use l s).1 := by
  have h1 := bd_relaxTo (use := use) h hl.1 l.length
  have h2 := hl.2
  exact bd_mono h1 (by omega)
set_option maxHeartbeats 2000000 in
set_option maxRecDepth 100000 in
theorem search_any {σ : World} {F : List Res} {a b : Option Addr} {c d : Nat} {l : List Con} {fr : List Int} {g : Nat} {fs cs : List Value} {use : Nat → Bool} (l1 l2 : Nat) (h : Sl σ F encC 3 (.slice a l.length c) l) (k : Sl σ F SL.encZ 1 (.slice b fr.length d) fr) (hu : UseF σ F l.length g fs cs use)
    (hl : Small l) (hb : InB l) (hf : fr.length ≤ 4096) :
    FnT Try.prog σ F 43 [.slice a l.length c, .slice b fr.length d, .func (.func g) fs.toArray cs.toArray] []
      (fun u ρ => ∃ bL bB, u = .tuple #[.agg #[.map (some bL), .map (some bB)], .int .i64 (search use l fr).2] ∧ ρ = [(l1, mp KZ encVZ bL (search use l fr).1.L), (l2, mp KZ encVZ bB (search use l fr).1.B)]) := by
  refine fn_of 42 Try.func43 rfl Try.ntmps43 rfl ?_
  have hle := h.i64
  have kle := k.i64
  have hl2 := hl.2
  have hnl := len_nodes l
  refine w_seq ?_
  refine w_region ?_
  refine wl_op [] rfl rfl rfl rfl (op_box (T := 24) (l := 3) rfl) ?_
  rintro _ _ ⟨b3, rfl, rfl⟩
  refine wl_op [] rfl rfl rfl rfl (op_box (T := 77) (l := 5) rfl) ?_
  rintro _ _ ⟨b5, rfl, rfl⟩
  refine wl_op [] rfl rfl rfl rfl (op_alloc (l := 6) tN74d) ?_
  rintro _ _ ⟨b6, rfl, rfl⟩
  refine wl_det rfl rfl rfl (op_assign rfl) ?_
  refine wl_nil ?_
  refine st_tn ?_
  refine w_seq ?_
  refine w_region ?_
  refine wl_op [] rfl rfl rfl rfl (op_makeMap (kt := KZ) (encV := encVZ) (lab := 12)) ?_
  rintro _ _ ⟨b12, rfl, rfl⟩
  refine wl_op [] rfl rfl rfl rfl (op_makeMap (kt := KZ) (encV := encVZ) (lab := 13)) ?_
  rintro _ _ ⟨b13, rfl, rfl⟩
  refine wl_det rfl rfl rfl (op_build tB74d rfl rfl) ?_
  refine wl_op [] rfl rfl rfl rfl (op_alloc (l := 8) tN74d) ?_
  rintro _ _ ⟨b8, rfl, rfl⟩
  refine wl_op0 [8] rfl rfl rfl (op_store rfl rfl tZ74d (by rfl) (by rfl) (by exact Nat.le_of_ble_eq_true rfl)) ?_
  rintro _ _ ⟨rfl, rfl⟩
  refine wl_nil ?_
  refine st_tn ?_
  refine w_seq ?_
  refine w_seq ?_
  refine w_region ?_
  refine wl_det rfl rfl rfl (op_move rfl) ?_
  refine wl_det rfl rfl rfl (op_lenT rfl tS26d (Sl.ent (by first | exact Sl.app (by assumption) _ | exact Sl.app (Sl.app (by assumption) _) _))) ?_
  refine wl_det rfl rfl rfl (op_move rfl) ?_
  refine wl_nil ?_
  refine st_tn ?_
  refine w_block ?_
  refine w_loopQ (X := Nat × List (Int × Int)) (fun z => z.1 ≤ fr.length ∧ z.2 = startM (fr.take z.1)) (fun z => [(17, .int .i64 (z.1))]) (fun z => [(12, mp KZ encVZ b12 (z.2))]) (fun z => fr.length - z.1) ((0, [])) [(1, _), (3, _), (5, _), (6, _), (8, _), (15, _), (16, _)] [(3, _), (5, _), (6, _), (13, _), (8, _)] [12, 3, 5, 6, 13, 8] rfl (rfl) (.cons rfl (.nil _)) (.cons rfl (.cons rfl (.cons rfl (.cons rfl (.cons rfl (.cons rfl (.cons rfl (.nil _)))))))) (by
      try dsimp only
      exact ⟨Nat.zero_le _, rfl⟩) ?_
  rintro ⟨i, L⟩ ⟨hi, hL⟩
  refine w_norm2 (by dsimp only [List.cons_append, List.nil_append]) (by dsimp only [List.cons_append, List.nil_append]) ?_
  try dsimp only at hi hL ⊢
  refine w_seq ?_
  refine w_region ?_
  refine wl_det rfl rfl rfl (op_lss rfl rfl) ?_
  refine wl_nil ?_
  refine st_tn ?_
  refine w_seq ?_
  refine w_cond_d rfl (fun hc18 => ?_) (fun hc18 => ?_)
  · -- c18.t
    obtain ⟨x, hx⟩ := getE (l := fr) (i := i) (by omega)
    have hlt := ltE hx
    refine w_skip ?_
    refine st_tn ?_
    refine w_seq ?_
    refine w_block ?_
    refine w_seq ?_
    refine w_region ?_
    refine wl_det rfl rfl rfl (op_idx rfl rfl tS26d (Sl.ent (by first | exact Sl.app (by assumption) _ | exact Sl.app (Sl.app (by assumption) _) _)) (by omega)) ?_
    refine wl_det rfl rfl rfl (op_ldx rfl tO3d (by first | exact Sl.app (by assumption) _ | exact Sl.app (Sl.app (by assumption) _) _) (by assumption) (by rfl)) ?_
    refine wl_det rfl rfl rfl (op_assign rfl) ?_
    refine wl_nil ?_
    refine st_tn ?_
    refine w_region ?_
    refine wl_det rfl rfl rfl (op_fieldAddr (off := 0) rfl tF74_0d) ?_
    refine wl_det rfl rfl rfl (op_load1 rfl tO72d (Ent.lab (l := 8) rfl (says_cel 0))) ?_
    refine wl_det rfl rfl rfl (op_move rfl) ?_
    refine wl_op0 [12] rfl rfl rfl (op_mapUpdate (kt := KZ) (encV := encVZ) (lab := 12) rfl rfl rfl tQ72d) ?_
    rintro _ _ ⟨rfl, rfl⟩
    refine wl_nil ?_
    refine st_bn ?_
    refine st_tn ?_
    refine w_region ?_
    refine wl_det rfl rfl rfl (op_add' rfl rfl (by omega)) ?_
    refine wl_det rfl rfl rfl (op_move rfl) ?_
    refine wl_nil ?_
    refine st_roundQ (x := (i, L)) ((i + 1, _)) [12, 3, 5, 6, 13, 8] rfl (rfl) (.cons rfl (.nil _)) (.cons rfl (.cons rfl (.cons rfl (.cons rfl (.cons rfl (.cons rfl (.cons rfl (.nil _)))))))) (by
        try dsimp only
        refine ⟨by omega, ?_⟩
        rw [take_snoc hx]; unfold startM; rw [foldl_snoc]; rw [hL]; rfl) (by
        try dsimp only
        omega) 
  · -- c18.f
    refine w_exit ?_
    refine st_te ?_
    refine st_te ?_
    refine st_be ?_
    refine st_tn ?_
    refine w_seq ?_
    refine w_region ?_
    refine wl_det rfl rfl rfl (op_makeFunc rfl rfl) ?_
    refine wl_det rfl rfl rfl (op_assign rfl) ?_
    refine wl_nil ?_
    refine st_tn ?_
    refine w_seq ?_
    refine w_seq ?_
    rw [take_all (by omega)] at hL
    refine w_region ?_
    refine wl_det rfl rfl rfl (op_load1 rfl tO24d (Ent.lab (l := 3) rfl (says_cel 0))) ?_
    refine wl_op [] rfl rfl rfl rfl (op_fn Try.func36 rfl rfl rfl (nodes_any 27 (Sl.app h _) (by assumption) (by omega))) ?_
    rintro _ _ ⟨a27, c27, rfl, rfl⟩
    refine wl_det rfl rfl rfl (op_lenT rfl tS26d (Sl.ent (Sl.lab 27 rfl (by unfold maxLen; omega)))) ?_
    refine wl_det rfl rfl rfl (op_move rfl) ?_
    refine wl_det rfl rfl rfl (op_lenT rfl tS26d (Sl.ent (Sl.app k _))) ?_
    refine wl_det rfl rfl rfl (op_add' rfl rfl (by omega)) ?_
    refine wl_det rfl rfl rfl (op_move rfl) ?_
    refine wl_nil ?_
    refine st_tn ?_
    refine w_block ?_
    refine w_loopQ (X := Nat × List (Int × Int) × List (Int × Int)) (fun z => z.1 ≤ (nodes l).length + fr.length ∧ rounds use l ((nodes l).length + fr.length - z.1) ⟨z.2.1, z.2.2⟩ = search use l fr ∧ Bd ((z.1 : Int) * 4194304) ⟨z.2.1, z.2.2⟩) (fun z => [(32, .int .i64 (z.1))]) (fun z => [(12, mp KZ encVZ b12 (z.2.1)), (13, mp KZ encVZ b13 (z.2.2))]) (fun z => (nodes l).length + fr.length - z.1) ((0, _, [])) [(6, _), (8, _), (11, _), (31, _)] [(3, _), (5, _), (6, _), (8, _), (27, _)] [12, 13, 3, 5, 6, 8, 27] rfl (rfl) (.cons rfl (.nil _)) (.cons rfl (.cons rfl (.cons rfl (.cons rfl (.nil _))))) (by
        try dsimp only
        refine ⟨Nat.zero_le _, ?_, ?_⟩
        · rw [hL]; rfl
        · rw [hL]; simpa using start_bd fr) ?_
    rintro ⟨i, L, B⟩ ⟨hi, hr, hbd⟩
    refine w_norm2 (by dsimp only [List.cons_append, List.nil_append]) (by dsimp only [List.cons_append, List.nil_append]) ?_
    try dsimp only at hi hr hbd ⊢
    refine w_seq ?_
    refine w_region ?_
    refine wl_det rfl rfl rfl (op_lss rfl rfl) ?_
    refine wl_nil ?_
    refine st_tn ?_
    refine w_seq ?_
    refine w_cond_d rfl (fun hc33 => ?_) (fun hc33 => ?_)
    · -- c33.t
      refine w_skip ?_
      refine st_tn ?_
      refine w_seq ?_
      refine w_block ?_
      refine w_seq ?_
      refine w_region ?_
      refine wl_det rfl rfl rfl (op_move rfl) ?_
      refine wl_op [12, 13] rfl rfl rfl rfl (op_fnv (fs := []) (cs := [.pointer (some ⟨b3, 0, none⟩), .pointer (some ⟨b8, 0, none⟩), .pointer (some ⟨b5, 0, none⟩)]) Try.func65 rfl rfl rfl rfl (relax_any 12 13 ⟨L, B⟩ _ (Ent.lab (l := 3) rfl (says_cel 0)) (Sl.app h _) (Ent.lab (l := 8) rfl (says_cel 0)) (Ent.lab (l := 5) rfl (says_cel 0)) (hu.app _) hl hbd (by omega))) ?_
      rintro _ _ ⟨rfl, rfl⟩
      refine wl_det rfl rfl rfl (op_lss rfl rfl) ?_
      refine wl_nil ?_
      refine st_tn ?_
      refine w_cond_d rfl (fun hc36 => ?_) (fun hc36 => ?_)
      · -- c36.t
        have hfin : search use l fr = ((relax use l ⟨L, B⟩).1, -1) := by rw [← hr, show (nodes l).length + fr.length - i = ((nodes l).length + fr.length - (i + 1)) + 1 by omega, rounds_stop hc36]
        refine w_seq ?_
        refine w_region ?_
        refine wl_det rfl rfl rfl (op_loadA rfl tA74d (Ent.lab (l := 8) rfl (says_cel 0)) (Nat.le_of_ble_eq_true rfl)) ?_
        refine wl_op0 [6] rfl rfl rfl (op_store rfl rfl tZ74d (by rfl) (by rfl) (by exact Nat.le_of_ble_eq_true rfl)) ?_
        rintro _ _ ⟨rfl, rfl⟩
        refine wl_det rfl rfl rfl (op_assign rfl) ?_
        refine wl_nil ?_
        refine st_tn ?_
        refine w_ret ?_
        refine st_br ?_
        refine st_tr ?_
        refine st_tr ?_
        refine st_br ?_
        refine st_tr ?_
        refine st_ret (vs := [_, _]) [12, 13] Try.results43 ⟨⟨_, rfl, Ent.mono (Ent.lab (l := 6) rfl (says_cel 0)) (fun _ h => run_load_agg tA74d h (Nat.le_of_ble_eq_true rfl))⟩, ⟨rfl, trivial⟩⟩ rfl ?_
        refine ⟨[(l1, _), (l2, _)], rfl, ?_⟩
        rw [hfin]; exact ⟨_, _, rfl, rfl⟩
      · -- c36.f
        refine w_skip ?_
        refine st_bn ?_
        refine st_tn ?_
        refine w_region ?_
        refine wl_det rfl rfl rfl (op_add' rfl rfl (by omega)) ?_
        refine wl_det rfl rfl rfl (op_move rfl) ?_
        refine wl_nil ?_
        refine st_roundQ (x := (i, L, B)) ((i + 1, _, _)) [12, 13, 3, 5, 6, 8, 27] rfl (rfl) (.cons rfl (.nil _)) (.cons rfl (.cons rfl (.cons rfl (.cons rfl (.nil _))))) (by
            try dsimp only
            refine ⟨by omega, ?_, ?_⟩
            · rw [← hr, show (nodes l).length + fr.length - i = ((nodes l).length + fr.length - (i + 1)) + 1 by omega, rounds_go (by omega)]
            · have := bd_relax (use := use) hbd hl (by omega); rw [show (((i + 1 : Nat) : Int)) = (i : Int) + 1 by omega]; exact this) (by
            try dsimp only
            omega) 
    · -- c33.f
      refine w_exit ?_
      refine st_te ?_
      refine st_te ?_
      refine st_be ?_
      refine st_tn ?_
      refine w_seq ?_
      have hfin : search use l fr = relax use l ⟨L, B⟩ := by rw [← hr, show (nodes l).length + fr.length - i = 0 by omega]; rfl
      refine w_drawW (fun β => [⟨39, [], [], [], noW (_), false, [], []⟩, ⟨40, [], [], [], noW (_), false, [], []⟩, ⟨41, [1], [], [(12, _), (13, _)], noW (_), false, [], []⟩]) [12, 13] [8, 11] [⟨39, [], [], false, [], []⟩, ⟨40, [], [], false, [], []⟩, ⟨41, [1], [], false, [], []⟩] [[], [], []] [[], [], [(12, _), (13, _)]] tMixd (fun _ => by rfl) (fun _ => by rfl) (by kernel_rfl) (by kernel_rfl) (by rfl) (by rfl)
          (fun β => ⟨.p rfl (by intro X; exact op_loadA rfl tA74d (Ent.lab (l := 8) rfl (says_cel 0)) (Nat.le_of_ble_eq_true rfl)),
          ⟨.p rfl (by intro X; exact op_move rfl),
          ⟨.p rfl (by intro X; rintro _ _ ⟨rfl, rfl⟩; exact op_fnv (fs := []) (cs := [.pointer (some ⟨b3, 0, none⟩), .pointer (some ⟨b8, 0, none⟩), .pointer (some ⟨b5, 0, none⟩)]) Try.func65 rfl rfl rfl rfl (relax_any 12 13 ⟨L, B⟩ _ (Ent.lab (l := 3) rfl (says_cel 0)) (Sl.app (Sl.app h X) _) (Ent.lab (l := 8) rfl (says_cel 0)) (Ent.lab (l := 5) rfl (says_cel 0)) ((hu.app X).app _) hl hbd (by omega))),
          trivial⟩⟩⟩)
          (fun β β' => ⟨fun _ => by rfl, ⟨fun _ => by rfl, ⟨fun _ => by rfl, trivial⟩⟩⟩) ?_
      intro β
      rintro _ _ ⟨rfl, rfl⟩ _ _ ⟨rfl, rfl⟩ _ _ ⟨rfl, rfl⟩
      refine wl_norm (e' := [(6, _), (39, _), (41, _)]) (.cons rfl (.cons rfl (.cons rfl (.nil _)))) (by dsimp only [cond_false, cond_true, List.nil_append, List.cons_append]) ?_
      refine wl_op0 [6] rfl rfl rfl (op_store rfl rfl tZ74d (by rfl) (by rfl) (by exact Nat.le_of_ble_eq_true rfl)) ?_
      rintro _ _ ⟨rfl, rfl⟩
      refine wl_det rfl rfl rfl (op_assign rfl) ?_
      refine wl_nil ?_
      refine st_tn ?_
      refine w_ret ?_
      refine st_ret (vs := [_, _]) [12, 13] Try.results43 ⟨⟨_, rfl, Ent.mono (Ent.lab (l := 6) rfl (says_cel 0)) (fun _ h => run_load_agg tA74d h (Nat.le_of_ble_eq_true rfl))⟩, ⟨rfl, trivial⟩⟩ rfl ?_
      refine ⟨[(l1, _), (l2, _)], rfl, ?_⟩
      rw [hfin]; exact ⟨_, _, rfl, rfl⟩

set_option maxHeartbeats 1000000 in
set_option maxRecDepth 100000 in
theorem comp_any {σ : World} {F : List Res} {a : Option Addr} {c : Nat} {l : List Con} (lab : Nat) (n : Int) (h : Sl σ F encC 3 (.slice a l.length c) l) (hl : l.length ≤ 1048576) :
    FnT Try.prog σ F 62 [.slice a l.length c, .int .i64 n] [] (fun u ρ => ∃ b m, Comp l n m ∧ u = .map (some b) ∧ ρ = [(lab, mp KZ encVB b m)]) := by
  refine fn_of 36 Try.func62 rfl Try.ntmps62 rfl ?_
  have hle := h.i64
  refine w_seq ?_
  refine w_region ?_
  refine wl_det rfl rfl rfl (op_assign rfl) ?_
  refine wl_nil ?_
  refine st_tn ?_
  refine w_seq ?_
  refine w_region ?_
  refine wl_op [] rfl rfl rfl rfl (op_makeMap (kt := KZ) (encV := encVB) (lab := 9)) ?_
  rintro _ _ ⟨b9, rfl, rfl⟩
  refine wl_det rfl rfl rfl (op_move rfl) ?_
  refine wl_op0 [9] rfl rfl rfl (op_insert (kt := KZ) (encV := encVB) (lab := 9) rfl rfl rfl tQ90d) ?_
  rintro _ _ ⟨rfl, rfl⟩
  refine wl_det rfl rfl rfl (op_move rfl) ?_
  refine wl_det rfl rfl rfl (op_assign rfl) ?_
  refine wl_nil ?_
  refine st_tn ?_
  refine w_seq ?_
  refine w_seq ?_
  refine w_region ?_
  refine wl_det rfl rfl rfl (op_assign rfl) ?_
  refine wl_nil ?_
  refine st_tn ?_
  refine w_block ?_
  refine w_loopQ (X := Bool × List (Int × Bool)) (fun z => CompI l n z.2 ∧ (z.1 = false → Closed l (· ∈ z.2.map Prod.fst))) (fun z => [(6, .bool (z.1))]) (fun z => [(9, mp KZ encVB b9 (z.2))]) (fun z => 2 * (1 + 2 * l.length - z.2.length) + (if z.1 then 1 else 0)) ((_, [(n, true)])) [(0, _), (5, _)] [] [9] rfl (rfl) (.cons rfl (.nil _)) (.cons rfl (.cons rfl (.nil _))) (by
      try dsimp only
      refine ⟨⟨fun p hp => ?_, by simp, by simp, fun k hk => ?_, fun P hP hn k hk => ?_⟩, fun h => by simp at h⟩
      · simp at hp; subst hp; rfl
      · simp at hk; subst hk; exact mem_allN.2 (.inl rfl)
      · simp at hk; subst hk; exact hn) ?_
  rintro ⟨gr, m⟩ ⟨hm, hg⟩
  refine w_norm2 (by dsimp only [List.cons_append, List.nil_append]) (by dsimp only [List.cons_append, List.nil_append]) ?_
  try dsimp only at hm hg ⊢
  refine w_seq ?_
  refine w_seq ?_
  refine w_region ?_
  refine wl_det rfl rfl rfl (op_move rfl) ?_
  refine wl_nil ?_
  refine st_tn ?_
  refine w_cond rfl (fun hc12 => ?_) (fun hc12 => ?_)
  · -- c12.t
    refine w_skip ?_
    refine st_tn ?_
    refine w_block ?_
    refine w_seq ?_
    refine w_region ?_
    refine wl_det rfl rfl rfl (op_assign rfl) ?_
    refine wl_nil ?_
    refine st_tn ?_
    refine w_seq ?_
    refine w_region ?_
    refine wl_det rfl rfl rfl (op_move rfl) ?_
    refine wl_det rfl rfl rfl (op_lenT rfl tS24d (Sl.ent (by first | exact Sl.app (by assumption) _ | exact Sl.app (Sl.app (by assumption) _) _))) ?_
    refine wl_det rfl rfl rfl (op_move rfl) ?_
    refine wl_nil ?_
    refine st_tn ?_
    refine w_block ?_
    refine w_loopQ (X := Bool × Nat × List (Int × Bool)) (fun z => z.2.1 ≤ l.length ∧ CompI l n z.2.2 ∧ (z.1 = false → z.2.2 = m ∧ ∀ c ∈ l.take z.2.1, (c.f ∈ m.map Prod.fst ↔ c.t ∈ m.map Prod.fst)) ∧ (z.1 = true → m.length < z.2.2.length) ∧ m.length ≤ z.2.2.length) (fun z => [(6, .bool (z.1)), (15, .int .i64 (z.2.1))]) (fun z => [(9, mp KZ encVB b9 (z.2.2))]) (fun z => l.length - z.2.1) ((_, 0, m)) [(0, _), (5, _), (13, _), (14, _)] [] [9] rfl (rfl) (.cons rfl (.cons rfl (.nil _))) (.cons rfl (.cons rfl (.cons rfl (.cons rfl (.nil _))))) (by
        try dsimp only
        exact ⟨Nat.zero_le _, hm, fun _ => ⟨rfl, by simp⟩, fun h => by simp at h, Nat.le_refl _⟩) ?_
    rintro ⟨gr2, i, m2⟩ ⟨hi, hm2, hg2, hgt, hmm⟩
    refine w_norm2 (by dsimp only [List.cons_append, List.nil_append]) (by dsimp only [List.cons_append, List.nil_append]) ?_
    try dsimp only at hi hm2 hg2 hgt hmm ⊢
    refine w_seq ?_
    refine w_region ?_
    refine wl_det rfl rfl rfl (op_lss rfl rfl) ?_
    refine wl_nil ?_
    refine st_tn ?_
    refine w_seq ?_
    refine w_cond_d rfl (fun hc16 => ?_) (fun hc16 => ?_)
    · -- c16.t
      obtain ⟨x, hx⟩ := getE (l := l) (i := i) (by omega)
      have hlt := ltE hx
      refine w_skip ?_
      refine st_tn ?_
      refine w_seq ?_
      refine w_block ?_
      refine w_seq ?_
      refine w_region ?_
      refine wl_det rfl rfl rfl (op_idx rfl rfl tS24d (Sl.ent (by first | exact Sl.app (by assumption) _ | exact Sl.app (Sl.app (by assumption) _) _)) (by omega)) ?_
      refine wl_det rfl rfl rfl (op_ldxA rfl tA34d (by first | exact Sl.app (by assumption) _ | exact Sl.app (Sl.app (by assumption) _) _) (by assumption) (by rfl) (by rfl)) ?_
      refine wl_op [] rfl rfl rfl rfl (op_alloc (l := 8) tN34d) ?_
      rintro _ _ ⟨b8, rfl, rfl⟩
      refine wl_op0 [8] rfl rfl rfl (op_store rfl rfl tZ34d (by rfl) (by rfl) (by exact Nat.le_of_ble_eq_true rfl)) ?_
      rintro _ _ ⟨rfl, rfl⟩
      refine wl_nil ?_
      refine st_tn ?_
      refine w_seq ?_
      refine w_region ?_
      refine wl_det rfl rfl rfl (op_move rfl) ?_
      refine wl_det rfl rfl rfl (op_fieldAddr (off := 0) rfl tF34_0d) ?_
      refine wl_det rfl rfl rfl (op_load1 rfl tO3d (Ent.lab (l := 8) rfl (says_cel 0))) ?_
      refine wl_det rfl rfl rfl (op_val (v' := .bool (decide (x.f ∈ m2.map Prod.fst))) (by exact tru_look hm2.tru _) (op_lookup (kt := KZ) (encV := encVB) rfl rfl tQ90d tN4d (Mr.lab 9 rfl))) ?_
      refine wl_det rfl rfl rfl (op_move rfl) ?_
      refine wl_det rfl rfl rfl (op_fieldAddr (off := 1) rfl tF34_1d) ?_
      refine wl_det rfl rfl rfl (op_load1 rfl tO3d (Ent.lab (l := 8) rfl (says_cel 1))) ?_
      refine wl_det rfl rfl rfl (op_val (v' := .bool (decide (x.t ∈ m2.map Prod.fst))) (by exact tru_look hm2.tru _) (op_lookup (kt := KZ) (encV := encVB) rfl rfl tQ90d tN4d (Mr.lab 9 rfl))) ?_
      refine wl_det rfl rfl rfl (op_neB rfl rfl Try.underlying4) ?_
      refine wl_nil ?_
      refine st_tn ?_
      refine w_cond rfl (fun hc27 => ?_) (fun hc27 => ?_)
      · -- c27.t
        have hne : ¬ (x.f ∈ m2.map Prod.fst ↔ x.t ∈ m2.map Prod.fst) := bne_t.1 hc27
        refine w_drawW (fun β => [⟨28, [], [], [], noW (_), false, [], []⟩, ⟨29, [], [], [], noW (_), false, [], []⟩, ⟨30, [1], [], [], noW (_), false, [], []⟩, ⟨31, [], [], [], noW (_), false, [], []⟩, ⟨32, [], [], [], noW (_), false, [], []⟩, ⟨33, [4], [], [], noW (_), false, [], []⟩, ⟨42, [0, 2], [], [(9, _)], noW (_), false, [], []⟩]) [9] [5, 8] [⟨28, [], [], false, [], []⟩, ⟨29, [], [], false, [], []⟩, ⟨30, [1], [], false, [], []⟩, ⟨31, [], [], false, [], []⟩, ⟨32, [], [], false, [], []⟩, ⟨33, [4], [], false, [], []⟩, ⟨42, [0, 2], [], false, [], []⟩] [[], [], [], [], [], [], []] [[], [], [], [], [], [], [(9, _)]] tMixd (fun _ => by rfl) (fun _ => by rfl) (by kernel_rfl) (by kernel_rfl) (by rfl) (by rfl)
            (fun β => ⟨.p rfl (by intro X; exact op_move rfl),
            ⟨.p rfl (by intro X; exact op_fieldAddr (off := 0) rfl tF34_0d),
            ⟨.p rfl (by intro X; rintro _ _ ⟨rfl, rfl⟩; exact op_load1 rfl tO3d (Ent.lab (l := 8) rfl (says_cel 0))),
            ⟨.p rfl (by intro X; exact op_move rfl),
            ⟨.p rfl (by intro X; exact op_fieldAddr (off := 1) rfl tF34_1d),
            ⟨.p rfl (by intro X; rintro _ _ ⟨rfl, rfl⟩; exact op_load1 rfl tO3d (Ent.lab (l := 8) rfl (says_cel 1))),
            ⟨.p rfl (by intro X; rintro _ _ ⟨rfl, rfl⟩ _ _ ⟨rfl, rfl⟩; exact op_mapUpdate (kt := KZ) (encV := encVB) (lab := 9) rfl rfl rfl tQ90d) (hu := by exact .inr fun _ _ h => h.1),
            trivial⟩⟩⟩⟩⟩⟩⟩)
            (fun β β' => ⟨fun _ => by rfl, ⟨fun _ => by rfl, ⟨fun _ => by rfl, ⟨fun _ => by rfl, ⟨fun _ => by rfl, ⟨fun _ => by rfl, ⟨fun _ => by rfl, trivial⟩⟩⟩⟩⟩⟩⟩) ?_
        intro β
        rintro _ _ ⟨rfl, rfl⟩ _ _ ⟨rfl, rfl⟩ _ _ ⟨rfl, rfl⟩ _ _ ⟨rfl, rfl⟩ _ _ ⟨rfl, rfl⟩ _ _ ⟨rfl, rfl⟩ _ _ ⟨rfl, rfl⟩
        refine wl_norm (e' := [(0, _), (5, _), (13, _), (14, _), (15, _), (31, _), (33, _)]) (.cons rfl (.cons rfl (.cons rfl (.cons rfl (.cons rfl (.cons rfl (.cons rfl (.nil _)))))))) (by dsimp only [cond_false, cond_true, List.nil_append, List.cons_append]) ?_
        refine wl_op0 [9] rfl rfl rfl (op_mapUpdate (kt := KZ) (encV := encVB) (lab := 9) rfl rfl rfl tQ90d) ?_
        rintro _ _ ⟨rfl, rfl⟩
        refine wl_det rfl rfl rfl (op_assign rfl) ?_
        refine wl_nil ?_
        refine st_bn ?_
        refine st_tn ?_
        refine w_region ?_
        refine wl_det rfl rfl rfl (op_add' rfl rfl (by omega)) ?_
        refine wl_det rfl rfl rfl (op_move rfl) ?_
        refine wl_nil ?_
        refine st_roundQ (x := (gr2, i, m2)) ((true, i + 1, setK KZ (setK KZ m2 x.f true) x.t true)) [9] rfl (rfl) (.cons rfl (.cons rfl (.nil _))) (.cons rfl (.cons rfl (.cons rfl (.cons rfl (.nil _))))) (by
            try dsimp only
            have hlg := len_grow hne
            exact ⟨by omega, hm2.grow (List.mem_of_getElem? hx) (Classical.byContradiction fun h => hne ⟨fun h1 => absurd (.inl h1) h, fun h1 => absurd (.inr h1) h⟩), fun h => by simp at h, fun _ => by omega, by omega⟩) (by
            try dsimp only
            omega) 
      · -- c27.f
        have hne : (x.f ∈ m2.map Prod.fst ↔ x.t ∈ m2.map Prod.fst) := Classical.not_not.1 fun h => by rw [bne_t.2 h] at hc27; simp at hc27
        refine w_skip ?_
        refine st_bn ?_
        refine st_tn ?_
        refine w_region ?_
        refine wl_det rfl rfl rfl (op_add' rfl rfl (by omega)) ?_
        refine wl_det rfl rfl rfl (op_move rfl) ?_
        refine wl_nil ?_
        refine st_roundQ (x := (gr2, i, m2)) ((gr2, i + 1, m2)) [9] rfl (rfl) (.cons rfl (.cons rfl (.nil _))) (.cons rfl (.cons rfl (.cons rfl (.cons rfl (.nil _))))) (by
            try dsimp only
            refine ⟨by omega, hm2, fun h => ⟨(hg2 h).1, fun c hc => ?_⟩, hgt, hmm⟩
            rw [take_snoc hx] at hc
            rcases List.mem_append.1 hc with hc | hc
            · exact (hg2 h).2 c hc
            · simp only [List.mem_singleton] at hc; subst hc
              have := hne; rw [(hg2 h).1] at this; exact this) (by
            try dsimp only
            omega) 
    · -- c16.f
      refine w_exit ?_
      refine st_te ?_
      refine st_te ?_
      refine st_be ?_
      refine st_bn ?_
      refine st_roundQ (x := (gr, m)) ((gr2, m2)) [9] rfl (rfl) (.cons rfl (.nil _)) (.cons rfl (.cons rfl (.nil _))) (by
          try dsimp only
          exact ⟨hm2, fun h => by obtain ⟨h1, h2⟩ := hg2 h; rw [take_all (by omega)] at h2; rw [h1]; exact h2⟩) (by
          try dsimp only
          have hle2 := hm2.le
          by_cases hb : gr2 = true
          · have := hgt hb; simp only [hb, hc12, if_true]; omega
          · have hb' : gr2 = false := by simpa using hb
            obtain ⟨h1, _⟩ := hg2 hb'
            simp only [hb', hc12, h1, if_true]; simp) 
  · -- c12.f
    refine w_exit ?_
    refine st_te ?_
    refine st_te ?_
    refine st_be ?_
    refine st_tn ?_
    refine w_seq ?_
    refine w_region ?_
    refine wl_det rfl rfl rfl (op_move rfl) ?_
    refine wl_det rfl rfl rfl (op_assign rfl) ?_
    refine wl_nil ?_
    refine st_tn ?_
    refine w_ret ?_
    refine st_ret (vs := [_]) [9] Try.results62 ⟨rfl, trivial⟩ rfl ?_
    refine ⟨[(lab, _)], rfl, ?_⟩
    exact ⟨_, _, ⟨hm.tru, hm.nod, hm.has, hg (by simpa using hc12), hm.least⟩, rfl, rfl⟩

theorem look_perm {κ ν : Type} {kt : KT κ} {l m : List (κ × ν)} (h : l.Perm m) (hn : (m.map Prod.fst).Nodup) (k : κ) : lookK kt l k = lookK kt m k := by
  have hl : (l.map Prod.fst).Nodup := (h.map Prod.fst).nodup_iff.2 hn
  cases hq : lookK kt m k with
  | some v => exact look_get (p := (k, v)) hl (h.mem_iff.2 (look_of hq))
  | none =>
    have : ¬ k ∈ m.map Prod.fst := fun h2 => by rw [← look_mem (kt := kt), hq] at h2; simp at h2
    have h3 : ¬ (lookK kt l k).isSome = true := fun h2 => this ((h.map Prod.fst).mem_iff.1 (look_mem.1 h2))
    simpa using h3
/-- What Copy makes. -/
def Copied {ν : Type} (d m d' : List (Int × ν)) : Prop := (d'.map Prod.fst).Nodup ∧ ∀ k, lookK KZ d' k = (lookK KZ m k).or (lookK KZ d k)
theorem copied_step {ν : Type} {d D dn : List (Int × ν)} {p : Int × ν} (h : Copied d dn D) : Copied d (p :: dn) (setK KZ D p.1 p.2) := by
  refine ⟨nod_set h.1, fun k => ?_⟩
  rw [look_set, h.2]
  rw [show lookK KZ (p :: dn) k = bif KZ.eq k p.1 then some p.2 else lookK KZ dn k from rfl]
  cases KZ.eq k p.1 <;> rfl
set_option maxHeartbeats 1000000 in
set_option maxRecDepth 100000 in
theorem copyB {σ : World} {F : List Res} {bD bS : Nat} {d m : List (Int × Bool)} (hd : (d.map Prod.fst).Nodup) :
    FnT Try.prog σ F 63 [.map (some bD), .map (some bS)] [(601, mp KZ encVB bD d), (602, mp KZ encVB bS m)] (fun u ρ => ∃ d', Copied d m d' ∧ u = .tuple #[] ∧ ρ = [(601, mp KZ encVB bD d'), (602, mp KZ encVB bS m)]) := by
  refine fn_of 16 Try.func63 rfl Try.ntmps63 rfl ?_
  refine w_openM 602 rfl (fun sts ck hwf => ?_)
  refine w_seq ?_
  refine w_region ?_
  refine wl_det rfl rfl rfl (op_move rfl) ?_
  refine wl_op [] rfl rfl rfl rfl (op_range (kt := KZ) (encV := encVB) (lab := 7) rfl tQ90d (Me.lab 602 rfl)) ?_
  rintro _ _ ⟨r7, rfl, rfl⟩
  refine wl_nil ?_
  refine st_tn ?_
  refine w_block ?_
  refine w_loopQ (X := List (Int × Bool) × List (Int × Bool) × List (Int × Bool)) (fun z => (z.1 ++ z.2.1).Perm m ∧ Copied d z.1 z.2.2) (fun z => []) (fun z => [(7, itR r7 bS m sts ck (z.1) (z.2.1)), (601, mp KZ encVB bD (z.2.2))]) (fun z => z.2.1.length) (([], m, d)) [(0, _), (7, _)] [(602, _)] [7, 601, 602] rfl (rfl) (.nil _) (.cons rfl (.cons rfl (.nil _))) (by
      try dsimp only
      exact ⟨List.Perm.refl _, hd, fun k => by simp [lookK]⟩) ?_
  rintro ⟨dn_it, td_it, D⟩ ⟨hp, hc⟩
  refine w_norm2 (by dsimp only [List.cons_append, List.nil_append]) (by dsimp only [List.cons_append, List.nil_append]) ?_
  try dsimp only at hp hc ⊢
  refine w_seq ?_
  refine w_region ?_
  refine wl_op [7] rfl rfl rfl rfl (op_next (kt := KZ) (encV := encVB) (lab := 7) rfl (Me.lab 602 rfl)) ?_
  rintro _ _ ⟨o8, dn8, td8, rfl, rfl, hn8⟩
  refine wl_det rfl rfl rfl (op_nextOk rfl) ?_
  refine wl_nil ?_
  refine st_tn ?_
  refine w_seq ?_
  refine w_cond rfl (fun hc9 => ?_) (fun hc9 => ?_)
  · -- c9.t
    obtain ⟨p, hpe⟩ := Option.isSome_iff_exists.1 hc9
    subst hpe
    obtain ⟨hdn, hperm⟩ : dn8 = p :: dn_it ∧ td_it.Perm (p :: td8) := hn8
    subst hdn
    refine w_skip ?_
    refine st_tn ?_
    refine w_block ?_
    refine w_seq ?_
    refine w_region ?_
    refine wl_det rfl rfl rfl (op_entry (kt := KZ) (encV := encVB) rfl (Me.lab 602 rfl) (It.lab 7 rfl)) ?_
    refine wl_det rfl rfl rfl (op_extract rfl rfl) ?_
    refine wl_det rfl rfl rfl (op_extract rfl rfl) ?_
    refine wl_det rfl rfl rfl (op_assign rfl) ?_
    refine wl_det rfl rfl rfl (op_assign rfl) ?_
    refine wl_nil ?_
    refine st_tn ?_
    refine w_region ?_
    refine wl_det rfl rfl rfl (op_move rfl) ?_
    refine wl_det rfl rfl rfl (op_move rfl) ?_
    refine wl_det rfl rfl rfl (op_move rfl) ?_
    refine wl_op0 [601] rfl rfl rfl (op_mapUpdate (kt := KZ) (encV := encVB) (lab := 601) rfl rfl rfl tQ90d) ?_
    rintro _ _ ⟨rfl, rfl⟩
    refine wl_nil ?_
    refine st_bn ?_
    refine st_roundQ (x := (dn_it, td_it, D)) ((_, _, _)) [7, 601, 602] rfl (rfl) (.nil _) (.cons rfl (.cons rfl (.nil _))) (by
        try dsimp only
        exact ⟨perm_next hp hperm, copied_step hc⟩) (by
        try dsimp only
        have := hperm.length_eq; simp at this; omega) 
  · -- c9.f
    have ho8 : o8 = none := by simpa using hc9
    subst ho8
    obtain ⟨htd, hdn, htd8⟩ : td_it = [] ∧ dn8 = dn_it ∧ td8 = [] := hn8
    subst htd
    rw [List.append_nil] at hp
    refine w_wk 602 (mp KZ encVB bS m) rfl mpE_mp ?_
    refine w_exit ?_
    refine st_te ?_
    refine st_te ?_
    refine st_be ?_
    refine st_end (vs := []) [601, 602] Try.results63 trivial rfl ?_
    refine ⟨[(601, _), (602, _)], rfl, ?_⟩
    exact ⟨D, ⟨hc.1, fun k => by rw [hc.2, look_perm hp hwf.nod]⟩, rfl, rfl⟩

end Go.Proofs.Ytgdjnjbipemdcaa
