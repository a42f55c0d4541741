/- Contracts: assignments; the law Satisfies (layer 9). Conditions: none. -/
import Derived.Test.YtgdjnjbipemdcaaK12
namespace Go.Proofs.Ytgdjnjbipemdcaa
open Go Go.SL Go.RowKit Go.ConM
set_option linter.unusedVariables false
set_option linter.unusedSimpArgs false
theorem tA34m : aggB Try.prog 34 3 = true := by kernel_rfl
theorem tA49m : aggB Try.prog 49 2 = true := by kernel_rfl
theorem tB49m : placesB Try.prog 49 = some ([(0, 1), (1, 1)], [Value.int .i64 0, Value.int .i64 0]) := by kernel_rfl
theorem tF34_0m : fieldB Try.prog 34 0 0 = true := by kernel_rfl
theorem tF34_1m : fieldB Try.prog 34 1 1 = true := by kernel_rfl
theorem tF34_2m : fieldB Try.prog 34 2 2 = true := by kernel_rfl
theorem tF49_0m : fieldB Try.prog 49 0 0 = true := by kernel_rfl
theorem tF49_1m : fieldB Try.prog 49 1 1 = true := by kernel_rfl
theorem tL45_1m : zerosB Try.prog 45 49 2 1 = some [Value.int .i64 0, Value.int .i64 0] := by kernel_rfl
theorem tMixm : Try.prog.follows .mixedOrders = true := by kernel_rfl
theorem tN3m : (Try.prog.info? 3).bind (·.zero) = some (Value.int .i64 0) := by kernel_rfl
theorem tN34m : (Try.prog.info? 34).bind (·.zero) = some (Value.agg #[Value.int .i64 0, Value.int .i64 0, Value.int .i64 0]) := by kernel_rfl
theorem tN49m : (Try.prog.info? 49).bind (·.zero) = some (Value.agg #[Value.int .i64 0, Value.int .i64 0]) := by kernel_rfl
theorem tO3m : oneB Try.prog 3 = true := by kernel_rfl
theorem tP45m : appB Try.prog 45 49 2 16 = true := by kernel_rfl
theorem tQ72m : mapB Try.prog 72 3 3 KZ.desc := ⟨Try.underlying72, Try.underlying3⟩
theorem tS24m : sliceB Try.prog 24 34 3 = true := by kernel_rfl
theorem tS26m : sliceB Try.prog 26 3 1 = true := by kernel_rfl
theorem tS45m : sliceB Try.prog 45 49 2 = true := by kernel_rfl
theorem tZ34m : (Try.prog.info? 34).map (·.size) = some 3 := by kernel_rfl
theorem tZ49m : (Try.prog.info? 49).map (·.size) = some 2 := by kernel_rfl

/-- The value of a node. -/
def valO (v : List (Int × Int)) (k : Int) : Int := (lookK KZ v k).getD 0
def holdsC (v : List (Int × Int)) (c : Con) : Prop := valO v c.t ≤ valO v c.f + c.b
open Classical in
/-- The error of an assignment. -/
noncomputable def satE (l : List Con) (v : List (Int × Int)) : Int := if v.map Prod.fst = nodes l then (if ∀ c ∈ l, holdsC v c then 0 else 17) else 34
def OkO (v : List (Int × Int)) : Prop := ∀ p ∈ v, I64 p.2
theorem valO_ok {v : List (Int × Int)} (h : OkO v) (k : Int) : I64 (valO v k) := by
  unfold valO
  cases hk : lookK KZ v k with
  | none => simp [I64]
  | some x => exact h _ (look_of hk)
theorem set_new {κ ν : Type} {kt : KT κ} {k : κ} {v : ν} : ∀ {m : List (κ × ν)}, k ∉ m.map Prod.fst → setK kt m k v = m ++ [(k, v)]
  | [], _ => rfl
  | q :: m, h => by
    unfold setK
    have : kt.eq k q.1 = false := by
      cases hq : kt.eq k q.1 with
      | false => rfl
      | true => exact absurd (by rw [(kt.eq_iff _ _).1 hq]; simp) h
    rw [this]
    have := set_new (kt := kt) (v := v) (m := m) (fun hm => h (by simp only [List.map_cons]; exact List.mem_cons_of_mem _ hm))
    simp [this]
theorem nodes_len24 (l : List Con) : (nodes l).length ≤ 2 * l.length := len_nodes l
theorem ss_new {l : List Int} (h : SS l) {i : Nat} {x : Int} (hx : l[i]? = some x) : x ∉ l.take i := by
  intro hm
  have hs := take_snoc hx
  have := h.sublist (List.take_sublist (i + 1) l)
  rw [hs] at this
  have := (List.pairwise_append.1 this).2.2 x hm x (by simp)
  omega
theorem val_idx {l : List Con} {v : List (Int × Int)} {k : Int} (hv : v.map Prod.fst = nodes l) (hk : k ∈ nodes l) :
    ∃ p : Int × Int, 0 ≤ idxL (nodes l) k ∧ idxL (nodes l) k < v.length ∧ v[(idxL (nodes l) k).toNat]? = some p ∧ p.2 = valO v k := by
  obtain ⟨i, h1, h2⟩ := idxL_mem hk
  have hlt := (List.getElem?_eq_some_iff.1 h2).1
  have hlen : v.length = (nodes l).length := by rw [← hv, List.length_map]
  refine ⟨v[i]'(by omega), by omega, by omega, by rw [h1]; simp, ?_⟩
  have hk1 : (v[i]'(by omega)).1 = k := by
    have : (v.map Prod.fst)[i]? = some k := by rw [hv]; exact h2
    rw [List.getElem?_map, List.getElem?_eq_getElem (by omega)] at this
    simpa using this
  have := look_get (kt := KZ) (p := v[i]'(by omega)) (l := v) (by rw [hv]; exact (nodes_ss l).nodup) (List.getElem_mem _)
  unfold valO
  rw [hk1] at this
  rw [this]; rfl
theorem bnd_small {l : List Con} (hl : Small l) : ∀ c ∈ l, Bnd c.b := fun c hc => by have := hl.1 c hc; unfold Bnd; omega
theorem take_ne {v : List (Int × Int)} {n : List Int} {i : Nat} {x : Int × Int} {y : Int} (hx : v[i]? = some x) (hy : n[i]? = some y) (h : x.1 ≠ y) : v.map Prod.fst ≠ n := fun e => by
  subst e; rw [List.getElem?_map, hx] at hy; exact h (by simpa using hy)
set_option maxHeartbeats 2000000 in
set_option maxRecDepth 100000 in
theorem sat_any {σ : World} {F : List Res} {a b : Option Addr} {c d : Nat} {l : List Con} {v : List (Int × Int)} (h : Sl σ F encC 3 (.slice a l.length c) l) (g : Sl σ F encO 2 (.slice b v.length d) v) (hl : Small l) (hb : InB l) (ho : OkO v) (hv : v.length ≤ 1048576) :
    FnT Try.prog σ F 33 [.slice a l.length c, .slice b v.length d] [] (fun u ρ => u = .int .i64 (satE l v) ∧ ρ = []) := by
  refine fn_of 57 Try.func33 rfl Try.ntmps33 rfl ?_
  have hle := h.i64
  have gle := g.i64
  have hl2 := hl.2
  have hnl := len_nodes l
  have hbs := bnd_small hl
  have hns := nodes_ss l
  refine w_seq ?_
  refine w_region ?_
  refine wl_det rfl rfl rfl (op_assign rfl) ?_
  refine wl_nil ?_
  refine st_tn ?_
  refine w_seq ?_
  refine w_region ?_
  refine wl_det rfl rfl rfl (op_move rfl) ?_
  refine wl_op [] rfl rfl rfl rfl (op_fn Try.func36 rfl rfl rfl (nodes_any 12 (by first | exact Sl.app (by assumption) _ | exact Sl.app (Sl.app (by assumption) _) _) (by assumption) (by omega))) ?_
  rintro _ _ ⟨a12, c12, rfl, rfl⟩
  refine wl_det rfl rfl rfl (op_assign rfl) ?_
  refine wl_nil ?_
  refine st_tn ?_
  refine w_seq ?_
  refine w_region ?_
  refine wl_op [] rfl rfl rfl rfl (op_makeMap (kt := KZ) (encV := encVZ) (lab := 13)) ?_
  rintro _ _ ⟨b13, rfl, rfl⟩
  refine wl_det rfl rfl rfl (op_assign rfl) ?_
  refine wl_nil ?_
  refine st_tn ?_
  refine w_seq ?_
  refine w_seq ?_
  refine w_region ?_
  refine wl_det rfl rfl rfl (op_move rfl) ?_
  refine wl_det rfl rfl rfl (op_lenT rfl tS26m (Sl.ent (Sl.lab 12 rfl (by unfold maxLen; omega)))) ?_
  refine wl_det rfl rfl rfl (op_move rfl) ?_
  refine wl_det rfl rfl rfl (op_lenT rfl tS45m (Sl.ent (by first | exact Sl.app (by assumption) _ | exact Sl.app (Sl.app (by assumption) _) _))) ?_
  refine wl_det rfl rfl rfl (op_neq rfl rfl) ?_
  refine wl_nil ?_
  refine st_tn ?_
  refine w_cond_d rfl (fun hc18 => ?_) (fun hc18 => ?_)
  · -- c18.t
    refine w_seq ?_
    refine w_region ?_
    refine wl_det rfl rfl rfl (op_assign rfl) ?_
    refine wl_nil ?_
    refine st_tn ?_
    refine w_ret ?_
    refine st_tr ?_
    refine st_ret (vs := [_]) [] Try.results33 ⟨rfl, trivial⟩ rfl ?_
    refine ⟨_, rfl, ?_⟩
    have : v.map Prod.fst ≠ nodes l := fun e => by have := congrArg List.length e; rw [List.length_map] at this; omega
    unfold satE; rw [if_neg this]; exact ⟨rfl, rfl⟩
  · -- c18.f
    refine w_skip ?_
    refine st_tn ?_
    refine w_seq ?_
    refine w_seq ?_
    refine w_region ?_
    refine wl_det rfl rfl rfl (op_move rfl) ?_
    refine wl_det rfl rfl rfl (op_lenT rfl tS45m (Sl.ent (by first | exact Sl.app (by assumption) _ | exact Sl.app (Sl.app (by assumption) _) _))) ?_
    refine wl_det rfl rfl rfl (op_move rfl) ?_
    refine wl_nil ?_
    refine st_tn ?_
    refine w_block ?_
    refine w_loopQ (X := Nat × List (Int × Int)) (fun z => z.1 ≤ v.length ∧ z.2 = v.take z.1 ∧ (v.take z.1).map Prod.fst = (nodes l).take z.1) (fun z => [(21, .int .i64 (z.1))]) (fun z => [(13, mp KZ encVZ b13 (z.2))]) (fun z => v.length - z.1) ((0, [])) [(0, _), (5, _), (6, _), (19, _), (20, _)] [(12, _)] [13, 12] rfl (rfl) (.cons rfl (.nil _)) (.cons rfl (.cons rfl (.cons rfl (.cons rfl (.cons rfl (.nil _)))))) (by
        try dsimp only
        exact ⟨Nat.zero_le _, rfl, rfl⟩) ?_
    rintro ⟨i, m⟩ ⟨hi, hm, hk⟩
    refine w_norm2 (by dsimp only [List.cons_append, List.nil_append]) (by dsimp only [List.cons_append, List.nil_append]) ?_
    try dsimp only at hi hm hk ⊢
    refine w_seq ?_
    refine w_region ?_
    refine wl_det rfl rfl rfl (op_lss rfl rfl) ?_
    refine wl_nil ?_
    refine st_tn ?_
    refine w_seq ?_
    refine w_cond_d rfl (fun hc22 => ?_) (fun hc22 => ?_)
    · -- c22.t
      obtain ⟨x, hx⟩ := getE (l := v) (i := i) (by omega)
      obtain ⟨y, hy⟩ := getE (l := nodes l) (i := i) (by omega)
      have hlt := ltE hx
      refine w_skip ?_
      refine st_tn ?_
      refine w_seq ?_
      refine w_block ?_
      refine w_seq ?_
      refine w_region ?_
      refine wl_det rfl rfl rfl (op_move rfl) ?_
      refine wl_det rfl rfl rfl (op_idx rfl rfl tS45m (Sl.ent (by first | exact Sl.app (by assumption) _ | exact Sl.app (Sl.app (by assumption) _) _)) (by omega)) ?_
      refine wl_det rfl rfl rfl (op_ldxA rfl tA49m (by first | exact Sl.app (by assumption) _ | exact Sl.app (Sl.app (by assumption) _) _) (by assumption) (by rfl) (by rfl)) ?_
      refine wl_op [] rfl rfl rfl rfl (op_alloc (l := 8) tN49m) ?_
      rintro _ _ ⟨b8, rfl, rfl⟩
      refine wl_det rfl rfl rfl (op_assign rfl) ?_
      refine wl_op0 [8] rfl rfl rfl (op_store rfl rfl tZ49m (by rfl) (by rfl) (by exact Nat.le_of_ble_eq_true rfl)) ?_
      rintro _ _ ⟨rfl, rfl⟩
      refine wl_nil ?_
      refine st_tn ?_
      refine w_seq ?_
      refine w_seq ?_
      refine w_drawW (fun β => [⟨26, [], [], [], noW (_), false, [], []⟩, ⟨27, [0], [], [], noW (_), false, [], []⟩, ⟨28, [], [], [], noW (_), false, [], []⟩, ⟨29, [], [], [], noW (_), false, [], []⟩, ⟨30, [2, 3], [], [], noW (_), false, [], []⟩, ⟨31, [4], [], [], noW (_), false, [], []⟩]) [] [8, 5, 7] [⟨26, [], [], false, [], []⟩, ⟨27, [0], [], false, [], []⟩, ⟨28, [], [], false, [], []⟩, ⟨29, [], [], false, [], []⟩, ⟨30, [2, 3], [], false, [], []⟩, ⟨31, [4], [], false, [], []⟩] [[], [], [], [], [], []] [[], [], [], [], [], []] tMixm (fun _ => by rfl) (fun _ => by rfl) (by kernel_rfl) (by kernel_rfl) (by rfl) (by rfl)
          (fun β => ⟨.p rfl (by intro X; exact op_fieldAddr (off := 0) rfl tF49_0m),
          ⟨.p rfl (by intro X; rintro _ _ ⟨rfl, rfl⟩; exact op_load1 rfl tO3m (Ent.lab (l := 8) rfl (says_cel 0))),
          ⟨.p rfl (by intro X; exact op_move rfl),
          ⟨.p rfl (by intro X; exact op_move rfl),
          ⟨.p rfl (by intro X; rintro _ _ ⟨rfl, rfl⟩ _ _ ⟨rfl, rfl⟩; exact op_idx rfl rfl tS26m (Sl.ent (Sl.lab 12 rfl (by unfold maxLen; omega))) (by omega)),
          ⟨.p rfl (by intro X; rintro _ _ ⟨rfl, rfl⟩; exact op_ldx rfl tO3m (Sl.lab 12 rfl (by unfold maxLen; omega)) (by assumption) (by rfl)),
          trivial⟩⟩⟩⟩⟩⟩)
          (fun β β' => ⟨fun _ => by rfl, ⟨fun _ => by rfl, ⟨fun _ => by rfl, ⟨fun _ => by rfl, ⟨fun _ => by rfl, ⟨fun _ => by rfl, trivial⟩⟩⟩⟩⟩⟩) ?_
      intro β
      rintro _ _ ⟨rfl, rfl⟩ _ _ ⟨rfl, rfl⟩ _ _ ⟨rfl, rfl⟩ _ _ ⟨rfl, rfl⟩ _ _ ⟨rfl, rfl⟩ _ _ ⟨rfl, rfl⟩
      refine wl_norm (e' := [(0, _), (5, _), (6, _), (8, _), (19, _), (20, _), (21, _), (27, _), (31, _)]) (.cons rfl (.cons rfl (.cons rfl (.cons rfl (.cons rfl (.cons rfl (.cons rfl (.cons rfl (.cons rfl (.nil _)))))))))) (by dsimp only [cond_false, cond_true, List.nil_append, List.cons_append]) ?_
      refine wl_det rfl rfl rfl (op_neq rfl rfl) ?_
      refine wl_nil ?_
      refine st_tn ?_
      refine w_cond_d rfl (fun hc32 => ?_) (fun hc32 => ?_)
      · -- c32.t
        refine w_seq ?_
        refine w_region ?_
        refine wl_det rfl rfl rfl (op_assign rfl) ?_
        refine wl_nil ?_
        refine st_tn ?_
        refine w_ret ?_
        refine st_tr ?_
        refine st_br ?_
        refine st_tr ?_
        refine st_tr ?_
        refine st_br ?_
        refine st_tr ?_
        refine st_ret (vs := [_]) [] Try.results33 ⟨rfl, trivial⟩ rfl ?_
        refine ⟨_, rfl, ?_⟩
        unfold satE; rw [if_neg (take_ne hx hy hc32)]; exact ⟨rfl, rfl⟩
      · -- c32.f
        have hxy : x.1 = y := Classical.not_not.1 hc32
        refine w_skip ?_
        refine st_tn ?_
        refine w_region ?_
        refine wl_det rfl rfl rfl (op_move rfl) ?_
        refine wl_det rfl rfl rfl (op_fieldAddr (off := 0) rfl tF49_0m) ?_
        refine wl_det rfl rfl rfl (op_load1 rfl tO3m (Ent.lab (l := 8) rfl (says_cel 0))) ?_
        refine wl_det rfl rfl rfl (op_fieldAddr (off := 1) rfl tF49_1m) ?_
        refine wl_det rfl rfl rfl (op_load1 rfl tO3m (Ent.lab (l := 8) rfl (says_cel 1))) ?_
        refine wl_op0 [13] rfl rfl rfl (op_mapUpdate (kt := KZ) (encV := encVZ) (lab := 13) rfl rfl rfl tQ72m) ?_
        rintro _ _ ⟨rfl, rfl⟩
        refine wl_nil ?_
        refine st_bn ?_
        refine st_tn ?_
        refine w_region ?_
        refine wl_det rfl rfl rfl (op_add' rfl rfl (by omega)) ?_
        refine wl_det rfl rfl rfl (op_move rfl) ?_
        refine wl_nil ?_
        refine st_roundQ (x := (i, m)) ((i + 1, _)) [13, 12] rfl (rfl) (.cons rfl (.nil _)) (.cons rfl (.cons rfl (.cons rfl (.cons rfl (.cons rfl (.nil _)))))) (by
            try dsimp only
            refine ⟨by omega, ?_, by rw [take_snoc hx, take_snoc hy, List.map_append, hk]; simp; exact hxy⟩; rw [hm, set_new (by rw [hk, hxy]; exact ss_new hns hy), take_snoc hx]) (by
            try dsimp only
            omega) 
    · -- c22.f
      refine w_exit ?_
      refine st_te ?_
      refine st_te ?_
      refine st_be ?_
      refine st_tn ?_
      refine w_seq ?_
      refine w_seq ?_
      rw [take_all (by omega)] at hm hk
      rw [List.take_of_length_le (by omega)] at hk
      subst hm
      refine w_region ?_
      refine wl_det rfl rfl rfl (op_move rfl) ?_
      refine wl_det rfl rfl rfl (op_lenT rfl tS24m (Sl.ent (by first | exact Sl.app (by assumption) _ | exact Sl.app (Sl.app (by assumption) _) _))) ?_
      refine wl_det rfl rfl rfl (op_move rfl) ?_
      refine wl_nil ?_
      refine st_tn ?_
      refine w_block ?_
      refine w_loopQ (X := Nat) (fun z => z ≤ l.length ∧ ∀ c ∈ l.take z, holdsC m c) (fun z => [(41, .int .i64 (z))]) (fun _ => []) (fun z => l.length - z) (0) [(6, _), (39, _), (40, _)] [(13, _), (12, _)] [13, 12] rfl (rfl) (.cons rfl (.nil _)) (.cons rfl (.cons rfl (.cons rfl (.nil _)))) (by
          try dsimp only
          exact ⟨Nat.zero_le _, by simp⟩) ?_
      rintro i ⟨hi, hall⟩
      refine w_norm2 (by dsimp only [List.cons_append, List.nil_append]) (by dsimp only [List.cons_append, List.nil_append]) ?_
      try dsimp only at hi hall ⊢
      refine w_seq ?_
      refine w_region ?_
      refine wl_det rfl rfl rfl (op_lss rfl rfl) ?_
      refine wl_nil ?_
      refine st_tn ?_
      refine w_seq ?_
      refine w_cond_d rfl (fun hc42 => ?_) (fun hc42 => ?_)
      · -- c42.t
        obtain ⟨x, hx⟩ := getE (l := l) (i := i) (by omega)
        have hlt := ltE hx
        have hb1 := hbs x (List.mem_of_getElem? hx)
        have hv1 := valO_ok ho x.t
        have hv2 := valO_ok ho x.f
        refine w_skip ?_
        refine st_tn ?_
        refine w_seq ?_
        refine w_block ?_
        refine w_seq ?_
        refine w_region ?_
        refine wl_det rfl rfl rfl (op_idx rfl rfl tS24m (Sl.ent (by first | exact Sl.app (by assumption) _ | exact Sl.app (Sl.app (by assumption) _) _)) (by omega)) ?_
        refine wl_det rfl rfl rfl (op_ldxA rfl tA34m (by first | exact Sl.app (by assumption) _ | exact Sl.app (Sl.app (by assumption) _) _) (by assumption) (by rfl) (by rfl)) ?_
        refine wl_op [] rfl rfl rfl rfl (op_alloc (l := 10) tN34m) ?_
        rintro _ _ ⟨b10, rfl, rfl⟩
        refine wl_op0 [10] rfl rfl rfl (op_store rfl rfl tZ34m (by rfl) (by rfl) (by exact Nat.le_of_ble_eq_true rfl)) ?_
        rintro _ _ ⟨rfl, rfl⟩
        refine wl_nil ?_
        refine st_tn ?_
        refine w_seq ?_
        refine w_region ?_
        refine wl_det rfl rfl rfl (op_move rfl) ?_
        refine wl_det rfl rfl rfl (op_fieldAddr (off := 1) rfl tF34_1m) ?_
        refine wl_det rfl rfl rfl (op_load1 rfl tO3m (Ent.lab (l := 10) rfl (says_cel 1))) ?_
        refine wl_det rfl rfl rfl (op_val (v' := .int .i64 (valO m x.t)) (by unfold valO; cases lookK KZ m x.t <;> rfl) (op_lookup (kt := KZ) (encV := encVZ) rfl rfl tQ72m tN3m (Mr.lab 13 rfl))) ?_
        refine wl_det rfl rfl rfl (op_move rfl) ?_
        refine wl_det rfl rfl rfl (op_fieldAddr (off := 0) rfl tF34_0m) ?_
        refine wl_det rfl rfl rfl (op_load1 rfl tO3m (Ent.lab (l := 10) rfl (says_cel 0))) ?_
        refine wl_det rfl rfl rfl (op_val (v' := .int .i64 (valO m x.f)) (by unfold valO; cases lookK KZ m x.f <;> rfl) (op_lookup (kt := KZ) (encV := encVZ) rfl rfl tQ72m tN3m (Mr.lab 13 rfl))) ?_
        refine wl_det rfl rfl rfl (op_fieldAddr (off := 2) rfl tF34_2m) ?_
        refine wl_det rfl rfl rfl (op_load1 rfl tO3m (Ent.lab (l := 10) rfl (says_cel 2))) ?_
        refine wl_det rfl rfl rfl (op_fn Try.func58 rfl rfl rfl (greater_any _ _ _ (by assumption) (by assumption) (by assumption))) ?_
        refine wl_nil ?_
        refine st_tn ?_
        refine w_cond_d rfl (fun hc55 => ?_) (fun hc55 => ?_)
        · -- c55.t
          refine w_seq ?_
          refine w_region ?_
          refine wl_det rfl rfl rfl (op_assign rfl) ?_
          refine wl_nil ?_
          refine st_tn ?_
          refine w_ret ?_
          refine st_br ?_
          refine st_tr ?_
          refine st_tr ?_
          refine st_br ?_
          refine st_tr ?_
          refine st_ret (vs := [_]) [] Try.results33 ⟨rfl, trivial⟩ rfl ?_
          refine ⟨_, rfl, ?_⟩
          unfold satE; rw [if_pos hk, if_neg (fun hall => by have := hall x (List.mem_of_getElem? hx); unfold holdsC at this; omega)]; exact ⟨rfl, rfl⟩
        · -- c55.f
          refine w_skip ?_
          refine st_bn ?_
          refine st_tn ?_
          refine w_region ?_
          refine wl_det rfl rfl rfl (op_add' rfl rfl (by omega)) ?_
          refine wl_det rfl rfl rfl (op_move rfl) ?_
          refine wl_nil ?_
          refine st_roundQ (x := i) (i + 1) [13, 12] rfl (rfl) (.cons rfl (.nil _)) (.cons rfl (.cons rfl (.cons rfl (.nil _)))) (by
              try dsimp only
              refine ⟨by omega, fun c hc => ?_⟩
              rw [take_snoc hx] at hc
              rcases List.mem_append.1 hc with hc | hc
              · exact hall c hc
              · rw [List.mem_singleton] at hc; subst hc; unfold holdsC; omega) (by
              try dsimp only
              omega) 
      · -- c42.f
        refine w_exit ?_
        refine st_te ?_
        refine st_te ?_
        refine st_be ?_
        refine st_tn ?_
        refine w_seq ?_
        refine w_region ?_
        refine wl_det rfl rfl rfl (op_assign rfl) ?_
        refine wl_nil ?_
        refine st_tn ?_
        refine w_ret ?_
        refine st_ret (vs := [_]) [] Try.results33 ⟨rfl, trivial⟩ rfl ?_
        refine ⟨_, rfl, ?_⟩
        rw [take_all (by omega)] at hall; unfold satE; rw [if_pos hk, if_pos hall]; exact ⟨rfl, rfl⟩

set_option maxHeartbeats 2000000 in
set_option maxRecDepth 100000 in
theorem rsat_any {σ : World} {F : List Res} {a b : Option Addr} {c d : Nat} {l : List Con} {v : List (Int × Int)} (h : Sl σ F encC 3 (.slice a l.length c) l) (g : Sl σ F encO 2 (.slice b v.length d) v) (hl : Small l) (hb : InB l) (ho : OkO v) (hv : v.length ≤ 1048576) :
    FnT Try.prog σ F 34 [.slice a l.length c, .slice b v.length d] [] (fun u ρ => u = .int .i64 (satE l v) ∧ ρ = []) := by
  refine fn_of 70 Try.func34 rfl Try.ntmps34 rfl ?_
  have hle := h.i64
  have gle := g.i64
  have hl2 := hl.2
  have hnl := len_nodes l
  have hbs := bnd_small hl
  have hns := nodes_ss l
  refine w_seq ?_
  refine w_region ?_
  refine wl_det rfl rfl rfl (op_assign rfl) ?_
  refine wl_nil ?_
  refine st_tn ?_
  refine w_seq ?_
  refine w_region ?_
  refine wl_det rfl rfl rfl (op_move rfl) ?_
  refine wl_op [] rfl rfl rfl rfl (op_fn Try.func32 rfl rfl rfl (rnodes_any 11 (Sl.app h _) (by assumption) (by omega))) ?_
  rintro _ _ ⟨a11, c11, rfl, rfl⟩
  refine wl_det rfl rfl rfl (op_assign rfl) ?_
  refine wl_nil ?_
  refine st_tn ?_
  refine w_seq ?_
  refine w_seq ?_
  refine w_region ?_
  refine wl_det rfl rfl rfl (op_move rfl) ?_
  refine wl_det rfl rfl rfl (op_lenT rfl tS45m (Sl.ent (by first | exact Sl.app (by assumption) _ | exact Sl.app (Sl.app (by assumption) _) _))) ?_
  refine wl_det rfl rfl rfl (op_move rfl) ?_
  refine wl_det rfl rfl rfl (op_lenT rfl tS26m (Sl.ent (Sl.lab 11 rfl (by unfold maxLen; omega)))) ?_
  refine wl_det rfl rfl rfl (op_neq rfl rfl) ?_
  refine wl_nil ?_
  refine st_tn ?_
  refine w_cond_d rfl (fun hc16 => ?_) (fun hc16 => ?_)
  · -- c16.t
    refine w_seq ?_
    refine w_region ?_
    refine wl_det rfl rfl rfl (op_assign rfl) ?_
    refine wl_nil ?_
    refine st_tn ?_
    refine w_ret ?_
    refine st_tr ?_
    refine st_ret (vs := [_]) [] Try.results34 ⟨rfl, trivial⟩ rfl ?_
    refine ⟨_, rfl, ?_⟩
    have : v.map Prod.fst ≠ nodes l := fun e => by have := congrArg List.length e; rw [List.length_map] at this; omega
    unfold satE; rw [if_neg this]; exact ⟨rfl, rfl⟩
  · -- c16.f
    refine w_skip ?_
    refine st_tn ?_
    refine w_seq ?_
    refine w_seq ?_
    refine w_region ?_
    refine wl_det rfl rfl rfl (op_assign rfl) ?_
    refine wl_nil ?_
    refine st_tn ?_
    refine w_block ?_
    refine w_loopQ (X := Nat) (fun z => z ≤ v.length ∧ (v.take z).map Prod.fst = (nodes l).take z) (fun z => [(6, .int .i64 (z))]) (fun _ => []) (fun z => v.length - z) (0) [(0, _), (1, _), (5, _)] [(11, _)] [11] rfl (rfl) (.cons rfl (.nil _)) (.cons rfl (.cons rfl (.cons rfl (.nil _)))) (by
        try dsimp only
        exact ⟨Nat.zero_le _, rfl⟩) ?_
    rintro i ⟨hi, hk⟩
    refine w_norm2 (by dsimp only [List.cons_append, List.nil_append]) (by dsimp only [List.cons_append, List.nil_append]) ?_
    try dsimp only at hi hk ⊢
    refine w_seq ?_
    refine w_seq ?_
    refine w_region ?_
    refine wl_det rfl rfl rfl (op_move rfl) ?_
    refine wl_det rfl rfl rfl (op_move rfl) ?_
    refine wl_det rfl rfl rfl (op_lenT rfl tS45m (Sl.ent (by first | exact Sl.app (by assumption) _ | exact Sl.app (Sl.app (by assumption) _) _))) ?_
    refine wl_det rfl rfl rfl (op_lss rfl rfl) ?_
    refine wl_nil ?_
    refine st_tn ?_
    refine w_cond_d rfl (fun hc20 => ?_) (fun hc20 => ?_)
    · -- c20.t
      obtain ⟨x, hx⟩ := getE (l := v) (i := i) (by omega)
      obtain ⟨y, hy⟩ := getE (l := nodes l) (i := i) (by omega)
      have hlt := ltE hx
      refine w_skip ?_
      refine st_tn ?_
      refine w_seq ?_
      refine w_block ?_
      refine w_seq ?_
      refine w_drawW (fun β => [⟨23, [], [], [], noW (_), false, [], []⟩, ⟨24, [], [], [], noW (_), false, [], []⟩, ⟨25, [0, 1], [], [], noW (_), false, [], []⟩, ⟨26, [2], [], [], noW (_), false, [], []⟩, ⟨27, [3], [], [], noW (_), false, [], []⟩, ⟨28, [], [], [], noW (_), false, [], []⟩, ⟨29, [], [], [], noW (_), false, [], []⟩, ⟨30, [5, 6], [], [], noW (_), false, [], []⟩, ⟨31, [7], [], [], noW (_), false, [], []⟩]) [] [1, 6, 5] [⟨23, [], [], false, [], []⟩, ⟨24, [], [], false, [], []⟩, ⟨25, [0, 1], [], false, [], []⟩, ⟨26, [2], [], false, [], []⟩, ⟨27, [3], [], false, [], []⟩, ⟨28, [], [], false, [], []⟩, ⟨29, [], [], false, [], []⟩, ⟨30, [5, 6], [], false, [], []⟩, ⟨31, [7], [], false, [], []⟩] [[], [], [], [], [], [], [], [], []] [[], [], [], [], [], [], [], [], []] tMixm (fun _ => by rfl) (fun _ => by rfl) (by kernel_rfl) (by kernel_rfl) (by rfl) (by rfl)
          (fun β => ⟨.p rfl (by intro X; exact op_move rfl),
          ⟨.p rfl (by intro X; exact op_move rfl),
          ⟨.p rfl (by intro X; rintro _ _ ⟨rfl, rfl⟩ _ _ ⟨rfl, rfl⟩; exact op_idx rfl rfl tS45m (Sl.ent (by first | exact Sl.app (by assumption) _ | exact Sl.app (Sl.app (by assumption) _) _)) (by omega)),
          ⟨.p rfl (by intro X; rintro _ _ ⟨rfl, rfl⟩; exact op_fieldAddr (off := 0) rfl tF49_0m),
          ⟨.p rfl (by intro X; rintro _ _ ⟨rfl, rfl⟩; exact op_ldxf rfl tO3m (by first | exact Sl.app (by assumption) _ | exact Sl.app (Sl.app (by assumption) _) _) (by assumption) (by rfl)),
          ⟨.p rfl (by intro X; exact op_move rfl),
          ⟨.p rfl (by intro X; exact op_move rfl),
          ⟨.p rfl (by intro X; rintro _ _ ⟨rfl, rfl⟩ _ _ ⟨rfl, rfl⟩; exact op_idx rfl rfl tS26m (Sl.ent (Sl.lab 11 rfl (by unfold maxLen; omega))) (by omega)),
          ⟨.p rfl (by intro X; rintro _ _ ⟨rfl, rfl⟩; exact op_ldx rfl tO3m (Sl.lab 11 rfl (by unfold maxLen; omega)) (by assumption) (by rfl)),
          trivial⟩⟩⟩⟩⟩⟩⟩⟩⟩)
          (fun β β' => ⟨fun _ => by rfl, ⟨fun _ => by rfl, ⟨fun _ => by rfl, ⟨fun _ => by rfl, ⟨fun _ => by rfl, ⟨fun _ => by rfl, ⟨fun _ => by rfl, ⟨fun _ => by rfl, ⟨fun _ => by rfl, trivial⟩⟩⟩⟩⟩⟩⟩⟩⟩) ?_
      intro β
      rintro _ _ ⟨rfl, rfl⟩ _ _ ⟨rfl, rfl⟩ _ _ ⟨rfl, rfl⟩ _ _ ⟨rfl, rfl⟩ _ _ ⟨rfl, rfl⟩ _ _ ⟨rfl, rfl⟩ _ _ ⟨rfl, rfl⟩ _ _ ⟨rfl, rfl⟩ _ _ ⟨rfl, rfl⟩
      refine wl_norm (e' := [(0, _), (1, _), (5, _), (6, _), (27, _), (31, _)]) (.cons rfl (.cons rfl (.cons rfl (.cons rfl (.cons rfl (.cons rfl (.nil _))))))) (by dsimp only [cond_false, cond_true, List.nil_append, List.cons_append]) ?_
      refine wl_det rfl rfl rfl (op_neq rfl rfl) ?_
      refine wl_nil ?_
      refine st_tn ?_
      refine w_cond_d rfl (fun hc32 => ?_) (fun hc32 => ?_)
      · -- c32.t
        refine w_seq ?_
        refine w_region ?_
        refine wl_det rfl rfl rfl (op_assign rfl) ?_
        refine wl_nil ?_
        refine st_tn ?_
        refine w_ret ?_
        refine st_br ?_
        refine st_tr ?_
        refine st_tr ?_
        refine st_br ?_
        refine st_tr ?_
        refine st_ret (vs := [_]) [] Try.results34 ⟨rfl, trivial⟩ rfl ?_
        refine ⟨_, rfl, ?_⟩
        unfold satE; rw [if_neg (take_ne hx hy hc32)]; exact ⟨rfl, rfl⟩
      · -- c32.f
        have hxy : x.1 = y := Classical.not_not.1 hc32
        refine w_skip ?_
        refine st_bn ?_
        refine st_tn ?_
        refine w_region ?_
        refine wl_det rfl rfl rfl (op_move rfl) ?_
        refine wl_det rfl rfl rfl (op_add' rfl rfl (by omega)) ?_
        refine wl_det rfl rfl rfl (op_assign rfl) ?_
        refine wl_nil ?_
        refine st_roundQ (x := i) (i + 1) [11] rfl (rfl) (.cons rfl (.nil _)) (.cons rfl (.cons rfl (.cons rfl (.nil _)))) (by
            try dsimp only
            exact ⟨by omega, by rw [take_snoc hx, take_snoc hy, List.map_append, hk]; simp; exact hxy⟩) (by
            try dsimp only
            omega) 
    · -- c20.f
      refine w_exit ?_
      refine st_te ?_
      refine st_te ?_
      refine st_be ?_
      refine st_tn ?_
      refine w_seq ?_
      refine w_seq ?_
      rw [take_all (by omega)] at hk
      rw [List.take_of_length_le (by omega)] at hk
      refine w_region ?_
      refine wl_det rfl rfl rfl (op_assign rfl) ?_
      refine wl_nil ?_
      refine st_tn ?_
      refine w_block ?_
      refine w_loopQ (X := Nat) (fun z => z ≤ l.length ∧ ∀ c ∈ l.take z, holdsC v c) (fun z => [(7, .int .i64 (z))]) (fun _ => []) (fun z => l.length - z) (0) [(0, _), (1, _), (5, _)] [(11, _)] [11] rfl (rfl) (.cons rfl (.nil _)) (.cons rfl (.cons rfl (.cons rfl (.nil _)))) (by
          try dsimp only
          exact ⟨Nat.zero_le _, by simp⟩) ?_
      rintro i ⟨hi, hall⟩
      refine w_norm2 (by dsimp only [List.cons_append, List.nil_append]) (by dsimp only [List.cons_append, List.nil_append]) ?_
      try dsimp only at hi hall ⊢
      refine w_seq ?_
      refine w_seq ?_
      refine w_region ?_
      refine wl_det rfl rfl rfl (op_move rfl) ?_
      refine wl_det rfl rfl rfl (op_move rfl) ?_
      refine wl_det rfl rfl rfl (op_lenT rfl tS24m (Sl.ent (by first | exact Sl.app (by assumption) _ | exact Sl.app (Sl.app (by assumption) _) _))) ?_
      refine wl_det rfl rfl rfl (op_lss rfl rfl) ?_
      refine wl_nil ?_
      refine st_tn ?_
      refine w_cond_d rfl (fun hc36 => ?_) (fun hc36 => ?_)
      · -- c36.t
        obtain ⟨x, hx⟩ := getE (l := l) (i := i) (by omega)
        have hlt := ltE hx
        have hb1 := hbs x (List.mem_of_getElem? hx)
        have hv1 := valO_ok ho x.t
        have hv2 := valO_ok ho x.f
        obtain ⟨p, hp1, hp2, hp3, hp4⟩ := val_idx hk (mem_nodes.2 ⟨x, List.mem_of_getElem? hx, .inl rfl⟩)
        obtain ⟨q, hq1, hq2, hq3, hq4⟩ := val_idx hk (mem_nodes.2 ⟨x, List.mem_of_getElem? hx, .inr rfl⟩)
        refine w_skip ?_
        refine st_tn ?_
        refine w_seq ?_
        refine w_block ?_
        refine w_seq ?_
        refine w_drawW (fun β => [⟨39, [], [], [], noW (_), false, [], []⟩, ⟨40, [], [], [], noW (_), false, [], []⟩, ⟨41, [], [], [], noW (_), false, [], []⟩, ⟨42, [], [], [], noW (_), false, [], []⟩, ⟨43, [2, 3], [], [], noW (_), false, [], []⟩, ⟨44, [4], [], [], noW (_), false, [], []⟩, ⟨45, [5], [], [], noW (_), false, [], []⟩, ⟨46, [1, 6], [], [], noW (_), false, [], []⟩, ⟨47, [0, 7], [], [], noW (_), false, [], []⟩, ⟨48, [8], [], [], noW (_), false, [], []⟩, ⟨49, [9], [], [], noW (_), false, [], []⟩, ⟨50, [], [], [], noW (_), false, [], []⟩, ⟨51, [], [], [], noW (_), false, [], []⟩, ⟨52, [], [], [], noW (_), false, [], []⟩, ⟨53, [], [], [], noW (_), false, [], []⟩, ⟨54, [13, 14], [], [], noW (_), false, [], []⟩, ⟨55, [15], [], [], noW (_), false, [], []⟩, ⟨56, [16], [], [], noW (_), false, [], []⟩, ⟨57, [12, 17], [], [], noW (_), false, [], []⟩, ⟨58, [11, 18], [], [], noW (_), false, [], []⟩, ⟨59, [19], [], [], noW (_), false, [], []⟩, ⟨60, [20], [], [], noW (_), false, [], []⟩, ⟨8, [10], [], [], noW (_), false, [], []⟩]) [] [1, 5, 0, 7] [⟨39, [], [], false, [], []⟩, ⟨40, [], [], false, [], []⟩, ⟨41, [], [], false, [], []⟩, ⟨42, [], [], false, [], []⟩, ⟨43, [2, 3], [], false, [], []⟩, ⟨44, [4], [], false, [], []⟩, ⟨45, [5], [], false, [], []⟩, ⟨46, [1, 6], [], false, [], []⟩, ⟨47, [0, 7], [], false, [], []⟩, ⟨48, [8], [], false, [], []⟩, ⟨49, [9], [], false, [], []⟩, ⟨50, [], [], false, [], []⟩, ⟨51, [], [], false, [], []⟩, ⟨52, [], [], false, [], []⟩, ⟨53, [], [], false, [], []⟩, ⟨54, [13, 14], [], false, [], []⟩, ⟨55, [15], [], false, [], []⟩, ⟨56, [16], [], false, [], []⟩, ⟨57, [12, 17], [], false, [], []⟩, ⟨58, [11, 18], [], false, [], []⟩, ⟨59, [19], [], false, [], []⟩, ⟨60, [20], [], false, [], []⟩, ⟨8, [10], [], false, [], []⟩] [[], [], [], [], [], [], [], [], [], [], [], [], [], [], [], [], [], [], [], [], [], [], []] [[], [], [], [], [], [], [], [], [], [], [], [], [], [], [], [], [], [], [], [], [], [], []] tMixm (fun _ => by rfl) (fun _ => by rfl) (by kernel_rfl) (by kernel_rfl) (by rfl) (by rfl)
            (fun β => ⟨.p rfl (by intro X; exact op_move rfl),
            ⟨.p rfl (by intro X; exact op_move rfl),
            ⟨.p rfl (by intro X; exact op_move rfl),
            ⟨.p rfl (by intro X; exact op_move rfl),
            ⟨.p rfl (by intro X; rintro _ _ ⟨rfl, rfl⟩ _ _ ⟨rfl, rfl⟩; exact op_idx rfl rfl tS24m (Sl.ent (by first | exact Sl.app (by assumption) _ | exact Sl.app (Sl.app (by assumption) _) _)) (by omega)),
            ⟨.p rfl (by intro X; rintro _ _ ⟨rfl, rfl⟩; exact op_fieldAddr (off := 0) rfl tF34_0m),
            ⟨.p rfl (by intro X; rintro _ _ ⟨rfl, rfl⟩; exact op_ldxf rfl tO3m (by first | exact Sl.app (by assumption) _ | exact Sl.app (Sl.app (by assumption) _) _) (by assumption) (by rfl)),
            ⟨.p rfl (by intro X; rintro _ _ ⟨rfl, rfl⟩ _ _ ⟨rfl, rfl⟩; exact op_fn Try.func51 rfl rfl rfl (rindex_any _ (Sl.lab 11 rfl (by unfold maxLen; omega)))),
            ⟨.p rfl (by intro X; rintro _ _ ⟨rfl, rfl⟩ _ _ ⟨rfl, rfl⟩; exact op_idxZ rfl rfl tS45m (Sl.ent (by first | exact Sl.app (by assumption) _ | exact Sl.app (Sl.app (by assumption) _) _)) (by omega) (by omega)),
            ⟨.p rfl (by intro X; rintro _ _ ⟨rfl, rfl⟩; exact op_fieldAddr (off := 1) rfl tF49_1m),
            ⟨.p rfl (by intro X; rintro _ _ ⟨rfl, rfl⟩; exact op_val (v' := .int .i64 (valO v x.f)) (by rw [← hp4]) (op_ldxf rfl tO3m (by first | exact Sl.app (by assumption) _ | exact Sl.app (Sl.app (by assumption) _) _) (by assumption) (by rfl))),
            ⟨.p rfl (by intro X; exact op_move rfl),
            ⟨.p rfl (by intro X; exact op_move rfl),
            ⟨.p rfl (by intro X; exact op_move rfl),
            ⟨.p rfl (by intro X; exact op_move rfl),
            ⟨.p rfl (by intro X; rintro _ _ ⟨rfl, rfl⟩ _ _ ⟨rfl, rfl⟩; exact op_idx rfl rfl tS24m (Sl.ent (by first | exact Sl.app (by assumption) _ | exact Sl.app (Sl.app (by assumption) _) _)) (by omega)),
            ⟨.p rfl (by intro X; rintro _ _ ⟨rfl, rfl⟩; exact op_fieldAddr (off := 1) rfl tF34_1m),
            ⟨.p rfl (by intro X; rintro _ _ ⟨rfl, rfl⟩; exact op_ldxf rfl tO3m (by first | exact Sl.app (by assumption) _ | exact Sl.app (Sl.app (by assumption) _) _) (by assumption) (by rfl)),
            ⟨.p rfl (by intro X; rintro _ _ ⟨rfl, rfl⟩ _ _ ⟨rfl, rfl⟩; exact op_fn Try.func51 rfl rfl rfl (rindex_any _ (Sl.lab 11 rfl (by unfold maxLen; omega)))),
            ⟨.p rfl (by intro X; rintro _ _ ⟨rfl, rfl⟩ _ _ ⟨rfl, rfl⟩; exact op_idxZ rfl rfl tS45m (Sl.ent (by first | exact Sl.app (by assumption) _ | exact Sl.app (Sl.app (by assumption) _) _)) (by omega) (by omega)),
            ⟨.p rfl (by intro X; rintro _ _ ⟨rfl, rfl⟩; exact op_fieldAddr (off := 1) rfl tF49_1m),
            ⟨.p rfl (by intro X; rintro _ _ ⟨rfl, rfl⟩; exact op_val (v' := .int .i64 (valO v x.t)) (by rw [← hq4]) (op_ldxf rfl tO3m (by first | exact Sl.app (by assumption) _ | exact Sl.app (Sl.app (by assumption) _) _) (by assumption) (by rfl))),
            ⟨.p rfl (by intro X; rintro _ _ ⟨rfl, rfl⟩; exact op_assign rfl),
            trivial⟩⟩⟩⟩⟩⟩⟩⟩⟩⟩⟩⟩⟩⟩⟩⟩⟩⟩⟩⟩⟩⟩⟩)
            (fun β β' => ⟨fun _ => by rfl, ⟨fun _ => by rfl, ⟨fun _ => by rfl, ⟨fun _ => by rfl, ⟨fun _ => by rfl, ⟨fun _ => by rfl, ⟨fun _ => by rfl, ⟨fun _ => by rfl, ⟨fun _ => by rfl, ⟨fun _ => by rfl, ⟨fun _ => by rfl, ⟨fun _ => by rfl, ⟨fun _ => by rfl, ⟨fun _ => by rfl, ⟨fun _ => by rfl, ⟨fun _ => by rfl, ⟨fun _ => by rfl, ⟨fun _ => by rfl, ⟨fun _ => by rfl, ⟨fun _ => by rfl, ⟨fun _ => by rfl, ⟨fun _ => by rfl, ⟨fun _ => by rfl, trivial⟩⟩⟩⟩⟩⟩⟩⟩⟩⟩⟩⟩⟩⟩⟩⟩⟩⟩⟩⟩⟩⟩⟩) ?_
        intro β
        rintro _ _ ⟨rfl, rfl⟩ _ _ ⟨rfl, rfl⟩ _ _ ⟨rfl, rfl⟩ _ _ ⟨rfl, rfl⟩ _ _ ⟨rfl, rfl⟩ _ _ ⟨rfl, rfl⟩ _ _ ⟨rfl, rfl⟩ _ _ ⟨rfl, rfl⟩ _ _ ⟨rfl, rfl⟩ _ _ ⟨rfl, rfl⟩ _ _ ⟨rfl, rfl⟩ _ _ ⟨rfl, rfl⟩ _ _ ⟨rfl, rfl⟩ _ _ ⟨rfl, rfl⟩ _ _ ⟨rfl, rfl⟩ _ _ ⟨rfl, rfl⟩ _ _ ⟨rfl, rfl⟩ _ _ ⟨rfl, rfl⟩ _ _ ⟨rfl, rfl⟩ _ _ ⟨rfl, rfl⟩ _ _ ⟨rfl, rfl⟩ _ _ ⟨rfl, rfl⟩ _ _ ⟨rfl, rfl⟩
        refine wl_norm (e' := [(0, _), (1, _), (5, _), (7, _), (8, _), (60, _)]) (.cons rfl (.cons rfl (.cons rfl (.cons rfl (.cons rfl (.cons rfl (.nil _))))))) (by dsimp only [cond_false, cond_true, List.nil_append, List.cons_append]) ?_
        refine wl_det rfl rfl rfl (op_assign rfl) ?_
        refine wl_nil ?_
        refine st_tn ?_
        refine w_seq ?_
        refine w_region ?_
        refine wl_det rfl rfl rfl (op_move rfl) ?_
        refine wl_det rfl rfl rfl (op_move rfl) ?_
        refine wl_det rfl rfl rfl (op_move rfl) ?_
        refine wl_det rfl rfl rfl (op_move rfl) ?_
        refine wl_det rfl rfl rfl (op_idx rfl rfl tS24m (Sl.ent (by first | exact Sl.app (by assumption) _ | exact Sl.app (Sl.app (by assumption) _) _)) (by omega)) ?_
        refine wl_det rfl rfl rfl (op_fieldAddr (off := 2) rfl tF34_2m) ?_
        refine wl_det rfl rfl rfl (op_ldxf rfl tO3m (by first | exact Sl.app (by assumption) _ | exact Sl.app (Sl.app (by assumption) _) _) (by assumption) (by rfl)) ?_
        refine wl_det rfl rfl rfl (op_fn Try.func59 rfl rfl rfl (atmost_any _ _ _ (by assumption) (by assumption) (by assumption))) ?_
        refine wl_det rfl rfl rfl (op_not_d rfl) ?_
        refine wl_nil ?_
        refine st_tn ?_
        refine w_cond_d rfl (fun hc69 => ?_) (fun hc69 => ?_)
        · -- c69.t
          refine w_seq ?_
          refine w_region ?_
          refine wl_det rfl rfl rfl (op_assign rfl) ?_
          refine wl_nil ?_
          refine st_tn ?_
          refine w_ret ?_
          refine st_br ?_
          refine st_tr ?_
          refine st_tr ?_
          refine st_br ?_
          refine st_tr ?_
          refine st_ret (vs := [_]) [] Try.results34 ⟨rfl, trivial⟩ rfl ?_
          refine ⟨_, rfl, ?_⟩
          unfold satE; rw [if_pos hk, if_neg (fun hall => by have := hall x (List.mem_of_getElem? hx); unfold holdsC at this; omega)]; exact ⟨rfl, rfl⟩
        · -- c69.f
          refine w_skip ?_
          refine st_bn ?_
          refine st_tn ?_
          refine w_region ?_
          refine wl_det rfl rfl rfl (op_move rfl) ?_
          refine wl_det rfl rfl rfl (op_add' rfl rfl (by omega)) ?_
          refine wl_det rfl rfl rfl (op_assign rfl) ?_
          refine wl_nil ?_
          refine st_roundQ (x := i) (i + 1) [11] rfl (rfl) (.cons rfl (.nil _)) (.cons rfl (.cons rfl (.cons rfl (.nil _)))) (by
              try dsimp only
              refine ⟨by omega, fun c hc => ?_⟩
              rw [take_snoc hx] at hc
              rcases List.mem_append.1 hc with hc | hc
              · exact hall c hc
              · rw [List.mem_singleton] at hc; subst hc; unfold holdsC; omega) (by
              try dsimp only
              omega) 
      · -- c36.f
        refine w_exit ?_
        refine st_te ?_
        refine st_te ?_
        refine st_be ?_
        refine st_tn ?_
        refine w_seq ?_
        refine w_region ?_
        refine wl_det rfl rfl rfl (op_assign rfl) ?_
        refine wl_nil ?_
        refine st_tn ?_
        refine w_ret ?_
        refine st_ret (vs := [_]) [] Try.results34 ⟨rfl, trivial⟩ rfl ?_
        refine ⟨_, rfl, ?_⟩
        rw [take_all (by omega)] at hall; unfold satE; rw [if_pos hk, if_pos hall]; exact ⟨rfl, rfl⟩

set_option maxHeartbeats 2000000 in
set_option maxRecDepth 100000 in
theorem lawSatisfies_any {σ : World} {F : List Res} {a b : Option Addr} {c d : Nat} {s : List Arc} {v : List (Int × Int)} (x0 x1 x2 x3 x4 x5 : Int) (h : Sl σ F encA 3 (.slice a s.length c) s) (g : Sl σ F encO 2 (.slice b v.length d) v) (hs : OkA s) (hv : OkO v) (hx0 : I64 x0) (hx1 : I64 x1) (hx2 : I64 x2) (hx3 : I64 x3) (hx4 : I64 x4) (hx5 : I64 x5) :
    FnT Try.prog σ F 11 [.slice a s.length c, .slice b v.length d, .agg #[.int .i64 x0, .int .i64 x1, .int .i64 x2, .int .i64 x3, .int .i64 x4, .int .i64 x5]] [] (fun u ρ => u = .bool true ∧ ρ = []) := by
  refine fn_of 60 Try.func11 rfl Try.ntmps11 rfl ?_
  have hle := h.i64
  have gle := g.i64
  obtain ⟨hfew, hsm, hin, hno, hbn⟩ := sys_ok hs
  obtain ⟨l, hl⟩ : ∃ l, l = sysL s := ⟨_, rfl⟩
  rw [← hl] at hfew hsm hin hno hbn
  refine w_seq ?_
  refine w_region ?_
  refine wl_op [] rfl rfl rfl rfl (op_box (T := 61) (l := 5) rfl) ?_
  rintro _ _ ⟨b5, rfl, rfl⟩
  refine wl_det rfl rfl rfl (op_assign rfl) ?_
  refine wl_nil ?_
  refine st_tn ?_
  refine w_seq ?_
  refine w_seq ?_
  refine w_region ?_
  refine wl_det rfl rfl rfl (op_fn Try.func15 rfl rfl rfl (known_any)) ?_
  refine wl_det rfl rfl rfl (op_not_t rfl) ?_
  refine wl_det rfl rfl rfl (op_move rfl) ?_
  refine wl_wanted_det rfl rfl rfl rfl rfl rfl rfl (op_move rfl) ?_
  refine wl_wanted_det rfl rfl rfl rfl rfl rfl rfl (op_lenT rfl tS45m (Sl.ent (by first | exact Sl.app (by assumption) _ | exact Sl.app (Sl.app (by assumption) _) _))) ?_
  refine wl_wanted_det rfl rfl rfl rfl rfl rfl rfl (op_gtr rfl rfl) ?_
  refine wl_det rfl rfl rfl (op_pick_f rfl rfl) ?_
  refine wl_nil ?_
  refine st_tn ?_
  refine w_cond_d rfl (fun hc17 => ?_) (fun hc17 => ?_)
  · -- c17.t
    refine w_seq ?_
    refine w_region ?_
    refine wl_det rfl rfl rfl (op_fn Try.func15 rfl rfl rfl (known_any)) ?_
    refine wl_det rfl rfl rfl (op_assign rfl) ?_
    refine wl_nil ?_
    refine st_tn ?_
    refine w_ret ?_
    refine st_tr ?_
    refine st_ret (vs := [_]) [] Try.results11 ⟨rfl, trivial⟩ rfl ?_
    refine ⟨_, rfl, ?_⟩
    exact ⟨rfl, rfl⟩
  · -- c17.f
    refine w_skip ?_
    refine st_tn ?_
    refine w_seq ?_
    refine w_region ?_
    refine wl_det rfl rfl rfl (op_move rfl) ?_
    refine wl_op [] rfl rfl rfl rfl (op_fn Try.func16 rfl rfl rfl (sys_any 20 (by first | exact Sl.app (by assumption) _ | exact Sl.app (Sl.app (by assumption) _) _) (by assumption))) ?_
    rintro _ _ ⟨a20, c20, rfl, rfl⟩
    refine wl_det rfl rfl rfl (op_assign rfl) ?_
    refine wl_nil ?_
    refine st_tn ?_
    refine w_seq ?_
    rw [← hl]
    clear hl
    have hnl := len_nodes l
    refine w_region ?_
    refine wl_det rfl rfl rfl (op_assign rfl) ?_
    refine wl_nil ?_
    refine st_tn ?_
    refine w_seq ?_
    refine w_region ?_
    refine wl_det rfl rfl rfl (op_move rfl) ?_
    refine wl_op [] rfl rfl rfl rfl (op_fn Try.func32 rfl rfl rfl (rnodes_any 22 (Sl.lab 20 rfl (by unfold maxLen; omega)) (by assumption) (by omega))) ?_
    rintro _ _ ⟨a22, c22, rfl, rfl⟩
    refine wl_det rfl rfl rfl (op_assign rfl) ?_
    refine wl_nil ?_
    refine st_tn ?_
    refine w_seq ?_
    refine w_seq ?_
    refine w_region ?_
    refine wl_det rfl rfl rfl (op_assign rfl) ?_
    refine wl_nil ?_
    refine st_tn ?_
    refine w_block ?_
    refine w_emp 8 (slO_nil 49 2) ?_
    refine w_loopQ (X := Nat × List (Int × Int) × Option Addr × Nat) (fun z => z.1 ≤ 6 ∧ z.1 ≤ (nodes l).length ∧ z.2.1.length = z.1 ∧ OkO z.2.1) (fun z => [(10, .int .i64 (z.1)), (8, .slice (z.2.2.1) (z.2.1).length (z.2.2.2))]) (fun z => [(8, slW 49 encO 2 (.slice (z.2.2.1) (z.2.1).length (z.2.2.2)) (z.2.1))]) (fun z => 6 - z.1) ((0, [], none, 0)) [(1, _), (5, _), (7, _), (9, _)] [(5, _), (20, _), (22, _)] [8, 5, 20, 22] rfl (rfl) (.cons rfl (.cons rfl (.nil _))) (.cons rfl (.cons rfl (.cons rfl (.cons rfl (.nil _))))) (by
        try dsimp only
        exact ⟨Nat.zero_le _, Nat.zero_le _, rfl, by intro p hp; simp at hp⟩) ?_
    rintro ⟨i, w, a_w, c_w⟩ ⟨hi, hi2, hwl, hwo⟩
    refine w_norm2 (by dsimp only [List.cons_append, List.nil_append]) (by dsimp only [List.cons_append, List.nil_append]) ?_
    try dsimp only at hi hi2 hwl hwo ⊢
    refine w_seq ?_
    refine w_seq ?_
    refine w_cutL [(30, .bool (decide ((i : Int) < (nodes l).length ∧ (i : Int) < 6)))] [1, 5, 7, 8, 9, 10] [8, 5, 20, 22] rfl (fun K' hK => ?_) ?_
    · -- cut r7
      refine w_region ?_
      refine wl_det rfl rfl rfl (op_move rfl) ?_
      refine wl_det rfl rfl rfl (op_move rfl) ?_
      refine wl_det rfl rfl rfl (op_lenT rfl tS26m (Sl.ent (Sl.lab 22 rfl (by unfold maxLen; omega)))) ?_
      refine wl_det rfl rfl rfl (op_lss rfl rfl) ?_
      refine wl_det rfl rfl rfl (op_move rfl) ?_
      refine wl_gsplit (t := 27) rfl (fun hg27 => ?_) (fun hg27 => ?_)
      · -- 27 is True
        refine wl_wanted_det rfl rfl rfl rfl rfl rfl rfl (op_move rfl) ?_
        refine wl_wanted_det rfl rfl rfl rfl rfl rfl rfl (op_lss rfl rfl) ?_
        refine wl_det rfl rfl rfl (op_pick_t rfl rfl) ?_
        refine wl_nil ?_
        refine st_tn ?_
        exact cut_done1 [8, 5, 20, 22] hK rfl (by first | (simp [*]; done) | (simp [*]; omega)) (by rfl) rfl rfl
      · -- 27 is False
        refine wl_unwanted rfl rfl rfl rfl rfl rfl rfl rfl ?_
        refine wl_unwanted rfl rfl rfl rfl rfl rfl rfl rfl ?_
        refine wl_det rfl rfl rfl (op_pick_f rfl rfl) ?_
        refine wl_nil ?_
        refine st_tn ?_
        exact cut_done1 [8, 5, 20, 22] hK rfl (by first | (simp [*]; done) | (simp [*]; omega)) (by rfl) rfl rfl
    · -- behind r7
      show W _ _ _ _ _ [(30, _), (1, _), (5, _), (7, _), (8, _), (9, _), (10, _)] [(8, _), (5, _), (20, _), (22, _)] _
      refine w_cond_d rfl (fun hc30 => ?_) (fun hc30 => ?_)
      · -- c30.t
        obtain ⟨y, hy⟩ := getE (l := nodes l) (i := i) (by omega)
        have hlt := ltE hy
        obtain ⟨q, hq, hvo⟩ : ∃ q, [Value.int .i64 x0, .int .i64 x1, .int .i64 x2, .int .i64 x3, .int .i64 x4, .int .i64 x5].drop (0 + i * 1) = .int .i64 q :: [Value.int .i64 x0, .int .i64 x1, .int .i64 x2, .int .i64 x3, .int .i64 x4, .int .i64 x5].drop (0 + i * 1 + 1) ∧ I64 q := by
          have : i = 0 ∨ i = 1 ∨ i = 2 ∨ i = 3 ∨ i = 4 ∨ i = 5 := by omega
          rcases this with rfl | rfl | rfl | rfl | rfl | rfl
          · exact ⟨x0, rfl, hx0⟩
          · exact ⟨x1, rfl, hx1⟩
          · exact ⟨x2, rfl, hx2⟩
          · exact ⟨x3, rfl, hx3⟩
          · exact ⟨x4, rfl, hx4⟩
          · exact ⟨x5, rfl, hx5⟩
        refine w_skip ?_
        refine st_tn ?_
        refine w_seq ?_
        refine w_block ?_
        refine w_drawW (fun β => [⟨33, [], [], [], noW (_), false, [], []⟩, ⟨34, [], [], [], noW (_), false, [], []⟩, ⟨35, [], [], [], noW (_), false, [], []⟩, ⟨36, [1, 2], [], [], noW (_), false, [], []⟩, ⟨37, [3], [], [], noW (_), false, [], []⟩, ⟨38, [], [], [], noW (_), false, [], []⟩, ⟨39, [5], [], [], noW (_), false, [], []⟩, ⟨40, [6], [], [], noW (_), false, [], []⟩, ⟨41, [4, 7], [], [], noW (_), false, [], []⟩, ⟨42, [8], [], [], fun w => DetW _ _, false, [], []⟩]) [] [8, 9, 10, 5] [⟨33, [], [], false, [], []⟩, ⟨34, [], [], false, [], []⟩, ⟨35, [], [], false, [], []⟩, ⟨36, [1, 2], [], false, [], []⟩, ⟨37, [3], [], false, [], []⟩, ⟨38, [], [], false, [], []⟩, ⟨39, [5], [], false, [], []⟩, ⟨40, [6], [], false, [], []⟩, ⟨41, [4, 7], [], false, [], []⟩, ⟨42, [8], [], false, [], []⟩] [[], [], [], [], [], [], [], [], [], []] [[], [], [], [], [], [], [], [], [], []] tMixm (fun _ => by rfl) (fun _ => by rfl) (by kernel_rfl) (by kernel_rfl) (by rfl) (by rfl)
            (fun β => ⟨.p rfl (by intro X; exact op_move rfl),
            ⟨.p rfl (by intro X; exact op_move rfl),
            ⟨.p rfl (by intro X; exact op_move rfl),
            ⟨.p rfl (by intro X; rintro _ _ ⟨rfl, rfl⟩ _ _ ⟨rfl, rfl⟩; exact op_idx rfl rfl tS26m (Sl.ent (Sl.lab 22 rfl (by unfold maxLen; omega))) (by omega)),
            ⟨.p rfl (by intro X; rintro _ _ ⟨rfl, rfl⟩; exact op_ldx rfl tO3m (Sl.lab 22 rfl (by unfold maxLen; omega)) (by assumption) (by rfl)),
            ⟨.p rfl (by intro X; exact op_move rfl),
            ⟨.p rfl (by intro X; rintro _ _ ⟨rfl, rfl⟩; exact op_idxArr (i := i) rfl rfl (show arrB Try.prog 61 6 1 = true by kernel_rfl) (by omega)),
            ⟨.p rfl (by intro X; rintro _ _ ⟨rfl, rfl⟩; exact op_load1 (v := .int .i64 q) (cs := [Value.int .i64 x0, .int .i64 x1, .int .i64 x2, .int .i64 x3, .int .i64 x4, .int .i64 x5].drop (0 + i * 1 + 1)) rfl tO3m (Ent.mono (Ent.lab (l := 5) rfl (says_cel (0 + i * 1))) (fun w' h' => by have h2 : At _ ([Value.int .i64 x0, .int .i64 x1, .int .i64 x2, .int .i64 x3, .int .i64 x4, .int .i64 x5].drop (0 + i * 1)) w' := h'; rw [hq] at h2; rw [Addr.add_mid]; exact h2))),
            ⟨.p rfl (by intro X; rintro _ _ ⟨rfl, rfl⟩ _ _ ⟨rfl, rfl⟩; exact op_build tB49m rfl rfl),
            ⟨.px rfl (by intro X; rintro _ _ ⟨rfl, rfl⟩; refine OpT.mono (op_buildSlice (enc := encO) (l := [(y, q)]) (lab := 42) tL45_1m rfl rfl (fun _ => rfl) rfl) ?_; rintro _ _ ⟨a42, c42, rfl, rfl⟩; obtain ⟨w, rfl, rfl⟩ : ∃ w : Wt, w.a = a42 ∧ w.c = c42 := ⟨{ a := a42, c := c42 }, rfl, rfl⟩; exact ⟨w, rfl, rfl⟩),
            trivial⟩⟩⟩⟩⟩⟩⟩⟩⟩⟩)
            (fun β β' => ⟨fun _ => by rfl, ⟨fun _ => by rfl, ⟨fun _ => by rfl, ⟨fun _ => by rfl, ⟨fun _ => by rfl, ⟨fun _ => by rfl, ⟨fun _ => by rfl, ⟨fun _ => by rfl, ⟨fun _ => by rfl, ⟨fun _ => by rfl, trivial⟩⟩⟩⟩⟩⟩⟩⟩⟩⟩) ?_
        intro β
        rintro _ _ ⟨rfl, rfl⟩ _ _ ⟨rfl, rfl⟩ _ _ ⟨rfl, rfl⟩ _ _ ⟨rfl, rfl⟩ _ _ ⟨rfl, rfl⟩ _ _ ⟨rfl, rfl⟩ _ _ ⟨rfl, rfl⟩ _ _ ⟨rfl, rfl⟩ _ _ ⟨rfl, rfl⟩ _ _ ⟨rfl, rfl⟩
        generalize (β 9).a = a42
        generalize (β 9).c = c42
        refine wl_norm (e' := [(1, _), (5, _), (7, _), (9, _), (10, _), (33, _), (42, _)]) (.cons rfl (.cons rfl (.cons rfl (.cons rfl (.cons rfl (.cons rfl (.cons rfl (.nil _)))))))) (by dsimp only [cond_false, cond_true, List.nil_append, List.cons_append]) ?_
        refine wl_op [8] rfl rfl rfl rfl (op_append (lab := 8) (lab' := 43) rfl rfl tP45m enc1O (Sl.lab 42 rfl (by simp [maxLen])) (by first | omega | (simp; done) | (simp; omega) | (simp [*]; omega)) (by first | omega | (simp; done) | (simp; omega) | (simp [*]; omega))) ?_
        rintro _ _ ⟨a43, c43, rfl, rfl⟩
        refine wl_det rfl rfl rfl (op_assign rfl) ?_
        refine wl_nil ?_
        refine st_bn ?_
        refine st_tn ?_
        refine w_region ?_
        refine wl_det rfl rfl rfl (op_move rfl) ?_
        refine wl_det rfl rfl rfl (op_add' rfl rfl (by omega)) ?_
        refine wl_det rfl rfl rfl (op_assign rfl) ?_
        refine wl_nil ?_
        refine st_roundQ (x := (i, w, a_w, c_w)) ((i + 1, _, _, _)) [43, 5, 20, 22] rfl (rfl) (.cons rfl (.cons rfl (.nil _))) (.cons rfl (.cons rfl (.cons rfl (.cons rfl (.nil _))))) (by
            try dsimp only
            refine ⟨by omega, by omega, by simp; omega, fun p hp => ?_⟩
            rcases List.mem_append.1 hp with hp | hp
            · exact hwo p hp
            · rw [List.mem_singleton] at hp; subst hp; exact hvo) (by
            try dsimp only
            omega) 
      · -- c30.f
        refine w_exit ?_
        refine st_te ?_
        refine st_te ?_
        refine st_be ?_
        refine st_tn ?_
        refine w_seq ?_
        refine w_region ?_
        refine wl_det rfl rfl rfl (op_move rfl) ?_
        refine wl_det rfl rfl rfl (op_move rfl) ?_
        refine wl_det rfl rfl rfl (op_fn Try.func33 rfl rfl rfl (sat_any (Sl.lab 20 rfl (by unfold maxLen; omega)) (Sl.app g _) (by assumption) (by assumption) (by assumption) (by omega))) ?_
        refine wl_det rfl rfl rfl (op_move rfl) ?_
        refine wl_det rfl rfl rfl (op_move rfl) ?_
        refine wl_det rfl rfl rfl (op_fn Try.func34 rfl rfl rfl (rsat_any (Sl.lab 20 rfl (by unfold maxLen; omega)) (Sl.app g _) (by assumption) (by assumption) (by assumption) (by omega))) ?_
        refine wl_det rfl rfl rfl (op_val (v' := .bool true) (by simp) (op_eql rfl rfl)) ?_
        refine wl_det rfl rfl rfl (op_move rfl) ?_
        refine wl_wanted_det rfl rfl rfl rfl rfl rfl rfl (op_move rfl) ?_
        refine wl_wanted_det rfl rfl rfl rfl rfl rfl rfl (op_move rfl) ?_
        refine wl_wanted_det rfl rfl rfl rfl rfl rfl rfl (op_fn Try.func33 rfl rfl rfl (sat_any (Sl.lab 20 rfl (by unfold maxLen; omega)) (Sl.lab 8 rfl (by unfold maxLen; omega)) (by assumption) (by assumption) (by assumption) (by omega))) ?_
        refine wl_wanted_det rfl rfl rfl rfl rfl rfl rfl (op_move rfl) ?_
        refine wl_wanted_det rfl rfl rfl rfl rfl rfl rfl (op_move rfl) ?_
        refine wl_wanted_det rfl rfl rfl rfl rfl rfl rfl (op_fn Try.func34 rfl rfl rfl (rsat_any (Sl.lab 20 rfl (by unfold maxLen; omega)) (Sl.lab 8 rfl (by unfold maxLen; omega)) (by assumption) (by assumption) (by assumption) (by omega))) ?_
        refine wl_wanted_det rfl rfl rfl rfl rfl rfl rfl (op_val (v' := .bool true) (by simp) (op_eql rfl rfl)) ?_
        refine wl_det rfl rfl rfl (op_pick_t rfl rfl) ?_
        refine wl_det rfl rfl rfl (op_assign rfl) ?_
        refine wl_nil ?_
        refine st_tn ?_
        refine w_ret ?_
        refine st_ret (vs := [_]) [] Try.results11 ⟨rfl, trivial⟩ rfl ?_
        refine ⟨_, rfl, ?_⟩
        exact ⟨rfl, rfl⟩

end Go.Proofs.Ytgdjnjbipemdcaa
