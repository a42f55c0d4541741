/- Contracts: what is known of two nodes; distances; solutions (layer 9). Conditions: none. -/
import Derived.Test.YtgdjnjbipemdcaaK5
import Derived.Test.YtgdjnjbipemdcaaM1
namespace Go.Proofs.Ytgdjnjbipemdcaa
open Go Go.SL Go.RowKit Go.ConM
set_option linter.unusedVariables false
set_option linter.unusedSimpArgs false
theorem tF34_0f : fieldB Try.prog 34 0 0 = true := by kernel_rfl
theorem tMixf : Try.prog.follows .mixedOrders = true := by kernel_rfl
theorem tN4f : (Try.prog.info? 4).bind (·.zero) = some (Value.bool false) := by kernel_rfl
theorem tN74f : (Try.prog.info? 74).bind (·.zero) = some (Value.agg #[Value.map none, Value.map none]) := by kernel_rfl
theorem tN90f : (Try.prog.info? 90).bind (·.zero) = some (Value.map none) := by kernel_rfl
theorem tO24f : oneB Try.prog 24 = true := by kernel_rfl
theorem tO3f : oneB Try.prog 3 = true := by kernel_rfl
theorem tO90f : oneB Try.prog 90 = true := by kernel_rfl
theorem tQ90f : mapB Try.prog 90 3 4 KZ.desc := ⟨Try.underlying90, Try.underlying3⟩
theorem tS24f : sliceB Try.prog 24 34 3 = true := by kernel_rfl
theorem tZ74f : (Try.prog.info? 74).map (·.size) = some 2 := by kernel_rfl
theorem tZ90f : (Try.prog.info? 90).map (·.size) = some 1 := by kernel_rfl

-- CALL sleuth/constraint.Implies imp_any _ _ _ {s0} (by assumption) (by assumption) (by assumption) (by assumption) (by assumption)
set_option maxHeartbeats 1000000 in
set_option maxRecDepth 100000 in
theorem use0 {σ : World} {F : List Res} {bl bm bI : Nat} {a : Option Addr} {c : Nat} {l : List Con} {m : List (Int × Bool)} (i : Nat) (hbl : Ent σ F (At ⟨bl, 0, none⟩ [.slice a l.length c])) (h : Sl σ F encC 3 (.slice a l.length c) l)
    (hbm : Ent σ F (At ⟨bm, 0, none⟩ [.map (some bI)])) (hm : Mr σ F KZ encVB (.map (some bI)) m) (ht : Tru m) (hi : i < l.length) :
    FnT Try.prog σ F 69 [.int .i64 i, .pointer (some ⟨bm, 0, none⟩), .pointer (some ⟨bl, 0, none⟩)] [] (fun u ρ => u = .bool (decide (useC l (m.map Prod.fst) i = true)) ∧ ρ = []) := by
  refine fn_of 12 Try.func69 rfl Try.ntmps69 rfl ?_
  obtain ⟨x, hx⟩ := getE hi
  refine w_seq ?_
  refine w_region ?_
  refine wl_det rfl rfl rfl (op_assign rfl) ?_
  refine wl_nil ?_
  refine st_tn ?_
  refine w_seq ?_
  refine w_drawW (fun β => [⟨5, [], [], [], noW (_), false, [], []⟩, ⟨6, [], [], [], noW (_), false, [], []⟩, ⟨7, [], [], [], noW (_), false, [], []⟩, ⟨8, [1, 2], [], [], noW (_), false, [], []⟩, ⟨9, [3], [], [], noW (_), false, [], []⟩, ⟨10, [4], [], [], noW (_), false, [], []⟩]) [] [1, 2, 0] [⟨5, [], [], false, [], []⟩, ⟨6, [], [], false, [], []⟩, ⟨7, [], [], false, [], []⟩, ⟨8, [1, 2], [], false, [], []⟩, ⟨9, [3], [], false, [], []⟩, ⟨10, [4], [], false, [], []⟩] [[], [], [], [], [], []] [[], [], [], [], [], []] tMixf (fun _ => by rfl) (fun _ => by rfl) (by kernel_rfl) (by kernel_rfl) (by rfl) (by rfl)
      (fun β => ⟨.p rfl (by intro X; exact op_load1 rfl tO90f (Ent.app (Ent.app hbm X) _)),
      ⟨.p rfl (by intro X; exact op_load1 rfl tO24f (Ent.app (Ent.app hbl X) _)),
      ⟨.p rfl (by intro X; exact op_move rfl),
      ⟨.p rfl (by intro X; rintro _ _ ⟨rfl, rfl⟩ _ _ ⟨rfl, rfl⟩; exact op_idx rfl rfl tS24f (Sl.ent (by first | exact Sl.app (by assumption) _ | exact Sl.app (Sl.app (by assumption) _) _)) (by omega)),
      ⟨.p rfl (by intro X; rintro _ _ ⟨rfl, rfl⟩; exact op_fieldAddr (off := 0) rfl tF34_0f),
      ⟨.p rfl (by intro X; rintro _ _ ⟨rfl, rfl⟩; exact op_ldxf rfl tO3f (by first | exact Sl.app (by assumption) _ | exact Sl.app (Sl.app (by assumption) _) _) (by assumption) (by rfl)),
      trivial⟩⟩⟩⟩⟩⟩)
      (fun β β' => ⟨fun _ => by rfl, ⟨fun _ => by rfl, ⟨fun _ => by rfl, ⟨fun _ => by rfl, ⟨fun _ => by rfl, ⟨fun _ => by rfl, trivial⟩⟩⟩⟩⟩⟩) ?_
  intro β
  rintro _ _ ⟨rfl, rfl⟩ _ _ ⟨rfl, rfl⟩ _ _ ⟨rfl, rfl⟩ _ _ ⟨rfl, rfl⟩ _ _ ⟨rfl, rfl⟩ _ _ ⟨rfl, rfl⟩
  refine wl_norm (e' := [(5, _), (10, _)]) (.cons rfl (.cons rfl (.nil _))) (by dsimp only [cond_false, cond_true, List.nil_append, List.cons_append]) ?_
  refine wl_det rfl rfl rfl (op_val (v' := .bool (decide (x.f ∈ m.map Prod.fst))) (by exact tru_look ht _) (op_lookup (kt := KZ) (encV := encVB) rfl rfl tQ90f tN4f (by first | exact Mr.app (by assumption) _ | exact Mr.app (Mr.app (by assumption) _) _))) ?_
  refine wl_det rfl rfl rfl (op_assign rfl) ?_
  refine wl_nil ?_
  refine st_tn ?_
  refine w_ret ?_
  refine st_ret (vs := [_]) [] Try.results69 ⟨rfl, trivial⟩ rfl ?_
  refine ⟨_, rfl, ?_⟩
  refine ⟨?_, rfl⟩; unfold useC; rw [hx]; simp [retv]

set_option maxHeartbeats 2000000 in
set_option maxRecDepth 100000 in
theorem known_s {σ : World} {F : List Res} {a : Option Addr} {c : Nat} {l : List Con} (x y : Int) (h : Sl σ F encC 3 (.slice a l.length c) l) (hl : Small l) (hb : InB l) :
    FnT Try.prog σ F 49 [.slice a l.length c, .int .i64 x, .int .i64 y] [] (fun u ρ => u = .int .i64 (knownE l x y) ∧ ρ = []) := by
  refine fn_of 37 Try.func49 rfl Try.ntmps49 rfl ?_
  have hle := h.i64
  have hl2 := hl.2
  have hnl := len_nodes l
  refine w_seq ?_
  refine w_region ?_
  refine wl_op [] rfl rfl rfl rfl (op_box (T := 24) (l := 3) rfl) ?_
  rintro _ _ ⟨b3, rfl, rfl⟩
  refine wl_det rfl rfl rfl (op_assign rfl) ?_
  refine wl_nil ?_
  refine st_tn ?_
  refine w_seq ?_
  refine w_region ?_
  refine wl_det rfl rfl rfl (op_load1 rfl tO24f (Ent.lab (l := 3) rfl (says_cel 0))) ?_
  refine wl_op [] rfl rfl rfl rfl (op_fn Try.func36 rfl rfl rfl (nodes_any 12 (Sl.app h _) (by assumption) (by omega))) ?_
  rintro _ _ ⟨a12, c12, rfl, rfl⟩
  refine wl_det rfl rfl rfl (op_assign rfl) ?_
  refine wl_nil ?_
  refine st_tn ?_
  refine w_seq ?_
  refine w_seq ?_
  refine w_cutL [(22, .bool (decide (¬ (x ∈ nodes l ∧ y ∈ nodes l))))] [1, 3] [3, 12] rfl (fun K' hK => ?_) ?_
  · -- cut r2
    refine w_region ?_
    refine wl_det rfl rfl rfl (op_move rfl) ?_
    refine wl_det rfl rfl rfl (op_move rfl) ?_
    refine wl_det rfl rfl rfl (op_fn Try.func67 rfl rfl rfl (contains_any _ (Sl.lab 12 rfl (by unfold maxLen; omega)))) ?_
    refine wl_det rfl rfl rfl (op_not_d rfl) ?_
    refine wl_det rfl rfl rfl (op_move rfl) ?_
    refine wl_gsplit (t := 17) rfl (fun hg17 => ?_) (fun hg17 => ?_)
    · -- 17 is True
      refine wl_unwanted rfl rfl rfl rfl rfl rfl rfl rfl ?_
      refine wl_unwanted rfl rfl rfl rfl rfl rfl rfl rfl ?_
      refine wl_unwanted rfl rfl rfl rfl rfl rfl rfl rfl ?_
      refine wl_unwanted rfl rfl rfl rfl rfl rfl rfl rfl ?_
      refine wl_det rfl rfl rfl (op_pick_t rfl rfl) ?_
      refine wl_nil ?_
      refine st_tn ?_
      exact cut_done1 [3, 12] hK rfl (by by_cases h1 : x ∈ nodes l <;> by_cases h2 : y ∈ nodes l <;> simp_all) (by rfl) rfl rfl
    · -- 17 is False
      refine wl_wanted_det rfl rfl rfl rfl rfl rfl rfl (op_move rfl) ?_
      refine wl_wanted_det rfl rfl rfl rfl rfl rfl rfl (op_move rfl) ?_
      refine wl_wanted_det rfl rfl rfl rfl rfl rfl rfl (op_fn Try.func67 rfl rfl rfl (contains_any _ (Sl.lab 12 rfl (by unfold maxLen; omega)))) ?_
      refine wl_wanted_det rfl rfl rfl rfl rfl rfl rfl (op_not_d rfl) ?_
      refine wl_det rfl rfl rfl (op_pick_f rfl rfl) ?_
      refine wl_nil ?_
      refine st_tn ?_
      exact cut_done1 [3, 12] hK rfl (by by_cases h1 : x ∈ nodes l <;> by_cases h2 : y ∈ nodes l <;> simp_all) (by rfl) rfl rfl
  · -- behind r2
    show W _ _ _ _ _ [(22, _), (1, _), (3, _)] [(3, _), (12, _)] _
    refine w_cond_d rfl (fun hc22 => ?_) (fun hc22 => ?_)
    · -- c22.t
      refine w_seq ?_
      refine w_region ?_
      refine wl_det rfl rfl rfl (op_assign rfl) ?_
      refine wl_nil ?_
      refine st_tn ?_
      refine w_ret ?_
      refine st_tr ?_
      refine st_ret (vs := [_]) [] Try.results49 ⟨rfl, trivial⟩ rfl ?_
      refine ⟨_, rfl, ?_⟩
      refine ⟨?_, rfl⟩; unfold knownE; rw [if_neg hc22]; rfl
    · -- c22.f
      have hxy : x ∈ nodes l ∧ y ∈ nodes l := Classical.not_not.1 hc22
      refine w_skip ?_
      refine st_tn ?_
      refine w_seq ?_
      refine w_region ?_
      refine wl_det rfl rfl rfl (op_load1 rfl tO24f (Ent.lab (l := 3) rfl (says_cel 0))) ?_
      refine wl_det rfl rfl rfl (op_move rfl) ?_
      refine wl_op [] rfl rfl rfl rfl (op_fn Try.func62 rfl rfl rfl (comp_any 25 _ (Sl.app h _) (by omega))) ?_
      rintro _ _ ⟨b25, m25, hm25, rfl, rfl⟩
      refine wl_op [] rfl rfl rfl rfl (op_alloc (l := 8) tN90f) ?_
      rintro _ _ ⟨b8, rfl, rfl⟩
      refine wl_op0 [8] rfl rfl rfl (op_store rfl rfl tZ90f (by rfl) (by rfl) (by exact Nat.le_of_ble_eq_true rfl)) ?_
      rintro _ _ ⟨rfl, rfl⟩
      refine wl_nil ?_
      refine st_tn ?_
      refine w_seq ?_
      refine w_seq ?_
      have hcl : (m25.map Prod.fst).length ≤ 1 + 2 * l.length := by
        have := nodup_le hm25.nod (fun k hk => (show k ∈ allN l x from hm25.least (· ∈ allN l x) (fun c hc => ⟨fun _ => mem_allN.2 (.inr ⟨c, hc, .inr rfl⟩), fun _ => mem_allN.2 (.inr ⟨c, hc, .inl rfl⟩)⟩) (mem_allN.2 (.inl rfl)) k hk))
        rwa [len_allN] at this
      rw [List.length_map] at hcl
      have hkb : ∀ p ∈ m25, I64 p.1 := fun p hp => by
        obtain ⟨c, hc, hcc⟩ := mem_nodes.1 hxy.1
        have hI : I64 x := by have := hb c hc; rcases hcc with h | h <;> rw [h]; (· exact this.1); (· exact this.2.1)
        refine hm25.least (fun k => I64 k) (fun c hc => ⟨fun _ => (hb c hc).2.1, fun _ => (hb c hc).1⟩) hI p.1 (List.mem_map.2 ⟨p, hp, rfl⟩)
      refine w_drawW (fun β => [⟨27, [], [], [], noW (_), false, [], []⟩, ⟨28, [], [], [], noW (_), false, [], []⟩, ⟨29, [1], [], [], fun w => DetW _ _, false, [], []⟩, ⟨30, [2], [], [], fun w => AndW _ (DetW _ _), false, [], []⟩, ⟨31, [], [], [], noW (_), false, [], []⟩, ⟨32, [0, 3, 4], [], [], fun w => DetW _ _, false, [], []⟩, ⟨26, [5], [], [], noW (_), false, [], []⟩, ⟨33, [6], [], [], noW (_), false, [], []⟩, ⟨34, [6], [], [], noW (_), false, [], []⟩, ⟨9, [], [], [], fun w => DetW _ _, true, [], []⟩, ⟨47, [7], [9], [], noW (_), false, [], []⟩]) [] [3, 8] [⟨27, [], [], false, [], []⟩, ⟨28, [], [], false, [], []⟩, ⟨29, [1], [], false, [], []⟩, ⟨30, [2], [], false, [], []⟩, ⟨31, [], [], false, [], []⟩, ⟨32, [0, 3, 4], [], false, [], []⟩, ⟨26, [5], [], false, [], []⟩, ⟨33, [6], [], false, [], []⟩, ⟨34, [6], [], false, [], []⟩, ⟨9, [], [], true, [], []⟩, ⟨47, [7], [9], false, [], []⟩] [[], [], [], [2], [], [2, 3], [2, 3, 5], [2, 3, 5], [2, 3, 5], [], [2, 3, 5, 9]] [[], [], [], [], [], [], [], [], [], [], []] tMixf (fun _ => by rfl) (fun _ => by rfl) (by kernel_rfl) (by kernel_rfl) (by rfl) (by rfl)
          (fun β => ⟨.p rfl (by intro X; exact op_load1 rfl tO24f (Ent.lab (l := 3) rfl (says_cel 0))),
          ⟨.p rfl (by intro X; exact op_load1 rfl tO90f (Ent.lab (l := 8) rfl (says_cel 0))),
          ⟨.px rfl (by intro X; rintro _ _ ⟨rfl, rfl⟩; refine OpT.mono (op_fn Try.func61 rfl rfl rfl (keysB 29)) ?_; rintro _ _ ⟨b29, rfl, rfl⟩; obtain ⟨w, rfl⟩ : ∃ w : Wt, w.b = b29 := ⟨{ b := b29 }, rfl⟩; exact ⟨w, rfl, rfl⟩),
          ⟨.px rfl (by intro X; rintro _ _ ⟨rfl, rfl⟩; refine OpT.mono (op_fn Try.func68 rfl rfl rfl (collectB 30 (Ent.lab (l := 29) rfl (says_cel 0)) (Mr.lab 25 rfl) hkb (by omega))) ?_; rintro _ _ ⟨m30, a30, c30, hp30, rfl, rfl⟩; obtain ⟨w, rfl, rfl, rfl⟩ : ∃ w : Wt, w.l = m30 ∧ w.a = a30 ∧ w.c = c30 := ⟨{ l := m30, a := a30, c := c30 }, rfl, rfl, rfl⟩; exact ⟨w, hp30, rfl, rfl⟩),
          ⟨.p rfl (by intro X; exact op_makeFunc rfl rfl),
          ⟨.px rfl (by intro X; rintro _ _ ⟨rfl, rfl⟩ _ _ ⟨hp30, rfl, rfl⟩ _ _ ⟨rfl, rfl⟩; refine OpT.mono (op_fn Try.func43 rfl rfl rfl (search_any 32 33 (Sl.app (Sl.app h X) _) (Sl.lab 30 rfl (by have := hp30.length_eq; rw [List.length_map] at this; unfold maxLen; omega)) ⟨⟨_, Try.func69, rfl, rfl⟩, fun Y i hi => use0 i (Ent.app (Ent.lab (l := 3) rfl (says_cel 0)) Y) (Sl.app (Sl.app (Sl.app h X) _) Y) (Ent.app (Ent.lab (l := 8) rfl (says_cel 0)) Y) (Mr.app (Mr.lab 25 rfl) Y) hm25.tru hi⟩ hl hb (by have := hp30.length_eq; rw [List.length_map] at this; omega))) ?_; rintro _ _ ⟨bL32, cB32, rfl, rfl⟩; obtain ⟨w, rfl, rfl⟩ : ∃ w : Wt, w.b = bL32 ∧ w.c = cB32 := ⟨{ b := bL32, c := cB32 }, rfl, rfl⟩; exact ⟨w, rfl, rfl⟩),
          ⟨.p rfl (by intro X; rintro _ _ ⟨rfl, rfl⟩; exact op_move rfl),
          ⟨.p rfl (by intro X; rintro _ _ ⟨rfl, rfl⟩; exact op_extract rfl rfl),
          ⟨.p rfl (by intro X; rintro _ _ ⟨rfl, rfl⟩; exact op_extract rfl rfl),
          ⟨.px rfl (by intro X; refine OpT.mono (op_alloc (l := 9) tN74f) ?_; rintro _ _ ⟨b9, rfl, rfl⟩; obtain ⟨w, rfl⟩ : ∃ w : Wt, w.b = b9 := ⟨{ b := b9 }, rfl⟩; exact ⟨w, rfl, rfl⟩),
          ⟨.p rfl (by intro X; rintro _ _ ⟨rfl, rfl⟩ _ _ ⟨rfl, rfl⟩; show OpT _ _ _ _ _ _ [(_, _)] _; exact op_store rfl rfl tZ74f (by rfl) (by rfl) (by exact Nat.le_of_ble_eq_true rfl)) (hu := by exact .inr fun _ _ h => h.1),
          trivial⟩⟩⟩⟩⟩⟩⟩⟩⟩⟩⟩)
          (fun β β' => ⟨fun _ => by rfl, ⟨fun _ => by rfl, ⟨fun _ => by rfl, ⟨fun h => by first | rfl | (simp only [h 2 (by decide)]), ⟨fun _ => by rfl, ⟨fun h => by first | rfl | (simp only [h 2 (by decide), h 3 (by decide)]), ⟨fun h => by first | rfl | (simp only [h 2 (by decide), h 3 (by decide), h 5 (by decide)]), ⟨fun h => by first | rfl | (simp only [h 2 (by decide), h 3 (by decide), h 5 (by decide)]), ⟨fun h => by first | rfl | (simp only [h 2 (by decide), h 3 (by decide), h 5 (by decide)]), ⟨fun _ => by rfl, ⟨fun h => by first | rfl | (simp only [h 2 (by decide), h 3 (by decide), h 5 (by decide), h 9 (by decide)]), trivial⟩⟩⟩⟩⟩⟩⟩⟩⟩⟩⟩) ?_
      intro β
      rintro _ _ ⟨rfl, rfl⟩ _ _ ⟨rfl, rfl⟩ _ _ ⟨rfl, rfl⟩ _ _ ⟨hp30, rfl, rfl⟩ _ _ ⟨rfl, rfl⟩ _ _ ⟨rfl, rfl⟩ _ _ ⟨rfl, rfl⟩ _ _ ⟨rfl, rfl⟩ _ _ ⟨rfl, rfl⟩ _ _ ⟨rfl, rfl⟩ _ _ ⟨rfl, rfl⟩
      generalize (β 2).b = b29 at hp30 ⊢
      generalize (β 3).l = m30 at hp30 ⊢
      generalize (β 3).a = a30 at hp30 ⊢
      generalize (β 3).c = c30 at hp30 ⊢
      generalize (β 5).b = bL32 at hp30 ⊢
      generalize (β 5).c = cB32 at hp30 ⊢
      generalize (β 9).b = b9 at hp30 ⊢
      refine wl_norm (e' := [(34, _)]) (.cons rfl (.nil _)) (by dsimp only [cond_false, cond_true, List.nil_append, List.cons_append]) ?_
      refine wl_det rfl rfl rfl (op_assign rfl) ?_
      refine wl_nil ?_
      refine st_tn ?_
      refine w_seq ?_
      refine w_region ?_
      refine wl_det rfl rfl rfl (op_move rfl) ?_
      refine wl_det rfl rfl rfl (op_geq rfl rfl) ?_
      refine wl_nil ?_
      refine st_tn ?_
      refine w_cond_d rfl (fun hc36 => ?_) (fun hc36 => ?_)
      · -- c36.t
        refine w_seq ?_
        refine w_region ?_
        refine wl_det rfl rfl rfl (op_assign rfl) ?_
        refine wl_nil ?_
        refine st_tn ?_
        refine w_ret ?_
        refine st_tr ?_
        refine st_ret (vs := [_]) [] Try.results49 ⟨rfl, trivial⟩ rfl ?_
        refine ⟨_, rfl, ?_⟩
        refine ⟨?_, rfl⟩; unfold knownE; rw [if_pos hxy, ← known_search hm25 hp30, if_pos hc36]; rfl
      · -- c36.f
        refine w_skip ?_
        refine st_tn ?_
        refine w_seq ?_
        refine w_region ?_
        refine wl_det rfl rfl rfl (op_assign rfl) ?_
        refine wl_nil ?_
        refine st_tn ?_
        refine w_ret ?_
        refine st_ret (vs := [_]) [] Try.results49 ⟨rfl, trivial⟩ rfl ?_
        refine ⟨_, rfl, ?_⟩
        refine ⟨?_, rfl⟩; unfold knownE; rw [if_pos hxy, ← known_search hm25 hp30, if_neg hc36]; rfl

end Go.Proofs.Ytgdjnjbipemdcaa
