/- Contracts: the reference's search (layer 9). Conditions: none. -/
import Derived.Test.YtgdjnjbipemdcaaK14
import Derived.Test.YtgdjnjbipemdcaaM5
namespace Go.Proofs.Ytgdjnjbipemdcaa
open Go Go.SL Go.RowKit Go.ConM
set_option linter.unusedVariables false
set_option linter.unusedSimpArgs false
theorem tF34_0o : fieldB Try.prog 34 0 0 = true := by kernel_rfl
theorem tF34_1o : fieldB Try.prog 34 1 1 = true := by kernel_rfl
theorem tF34_2o : fieldB Try.prog 34 2 2 = true := by kernel_rfl
theorem tMixo : Try.prog.follows .mixedOrders = true := by kernel_rfl
theorem tO3o : oneB Try.prog 3 = true := by kernel_rfl
theorem tO4o : oneB Try.prog 4 = true := by kernel_rfl
theorem tS24o : sliceB Try.prog 24 34 3 = true := by kernel_rfl
theorem tS26o : sliceB Try.prog 26 3 1 = true := by kernel_rfl
theorem tS84o : sliceB Try.prog 84 4 1 = true := by kernel_rfl

/-- Labels as lists. -/
def valV (ns : List Int) (f : Lbl) : List Int := ns.map fun k => (f k).getD 0
def hasV (ns : List Int) (f : Lbl) : List Bool := ns.map fun k => (f k).isSome
theorem valV_len (ns : List Int) (f : Lbl) : (valV ns f).length = ns.length := List.length_map ..
theorem hasV_len (ns : List Int) (f : Lbl) : (hasV ns f).length = ns.length := List.length_map ..
theorem map_setF {α : Type} {ns : List Int} (hn : ns.Nodup) {g : Lbl} {i : Nat} {k v : Int} (hk : ns[i]? = some k) (q : Option Int → α) : ns.map (fun x => q (setF g k v x)) = (ns.map fun x => q (g x)).set i (q (some v)) := by
  apply List.ext_getElem?
  intro j
  rw [List.getElem?_map, List.getElem?_set, List.getElem?_map]
  have hi := (List.getElem?_eq_some_iff.1 hk).1
  by_cases hij : i = j
  · subst hij; rw [if_pos rfl, if_pos (by rw [List.length_map]; exact hi), hk]; simp [setF]
  · rw [if_neg hij]
    cases hj : ns[j]? with
    | none => rfl
    | some y =>
      have hyk : y ≠ k := fun e => by
        subst e
        have h1 := List.getElem?_eq_some_iff.1 hk
        have h2 := List.getElem?_eq_some_iff.1 hj
        obtain ⟨h1, h1e⟩ := h1
        obtain ⟨h2, h2e⟩ := h2
        rcases Nat.lt_or_gt_of_ne hij with hlt | hlt
        · exact List.pairwise_iff_getElem.1 hn i j h1 h2 hlt (by rw [h1e, h2e])
        · exact List.pairwise_iff_getElem.1 hn j i h2 h1 hlt (by rw [h1e, h2e])
      simp [setF, hyk]
def BdF (m : Int) (f : Lbl) : Prop := ∀ k x, f k = some x → -m ≤ x ∧ x ≤ m
theorem bdF_step {m : Int} {c : Con} {p : Lbl × Bool} (h : BdF m p.1) (hc : -4096 ≤ c.b ∧ c.b ≤ 4096) : BdF (m + 4096) (stepF c p).1 := by
  intro k x hx
  unfold stepF at hx
  split at hx
  · rename_i hu
    dsimp only [setF] at hx
    split at hx
    · simp at hx
      unfold updC at hu
      cases ha : p.1 c.f with
      | none => rw [ha] at hu; simp at hu
      | some a => have := h _ _ ha; rw [ha] at hx; simp at hx; omega
    · have := h k x hx; omega
  · have := h k x hx; omega
theorem bdF_rel {m : Int} {f : Lbl} {b : Bool} (h : BdF m f) : ∀ {l : List Con}, (∀ c ∈ l, -4096 ≤ c.b ∧ c.b ≤ 4096) → ∀ k, k ≤ l.length → BdF (m + 4096 * k) (relF (l.take k) (f, b)).1
  | l, hl, 0, _ => by simpa [relF] using h
  | l, hl, k + 1, hk => by
    have ih := bdF_rel h hl k (by omega) (b := b)
    have hx := List.getElem?_eq_getElem (l := l) (i := k) (by omega)
    rw [take_snoc hx, relF_snoc]
    have := bdF_step ih (hl _ (List.mem_of_getElem? hx))
    intro q x hq; have := this q x hq; omega
theorem get_map {α β : Type} {l : List α} {i : Nat} {x : α} (q : α → β) (h : l[i]? = some x) : (l.map q)[i]? = some (q x) := by rw [List.getElem?_map, h]; rfl
set_option maxHeartbeats 4000000 in
set_option maxRecDepth 100000 in
theorem rrelax_any {σ : World} {F : List Res} {a b a501 a502 : Option Addr} {c d c501 c502 : Nat} {l : List Con} {ns : List Int} (f : Lbl) (m : Int) (h : Sl σ F encC 3 (.slice a l.length c) l) (k : Sl σ F SL.encZ 1 (.slice b ns.length d) ns) (hl : Small l) (hn : ns.Nodup) (hns : ∀ c ∈ l, c.f ∈ ns ∧ c.t ∈ ns) (hnl : ns.length ≤ 1048576) (hf : BdF m f) (hm : 0 ≤ m ∧ m ≤ 1099511627776) :
    FnT Try.prog σ F 52 [.slice a l.length c, .slice b ns.length d, .slice a501 ns.length c501, .slice a502 ns.length c502] [(501, slW 3 SL.encZ 1 (.slice a501 ns.length c501) (valV ns f)), (502, slW 4 encB 1 (.slice a502 ns.length c502) (hasV ns f))]
      (fun u ρ => u = .bool (relF l (f, false)).2 ∧ ρ = [(501, slW 3 SL.encZ 1 (.slice a501 ns.length c501) (valV ns (relF l (f, false)).1)), (502, slW 4 encB 1 (.slice a502 ns.length c502) (hasV ns (relF l (f, false)).1))]) := by
  refine fn_of 78 Try.func52 rfl Try.ntmps52 rfl ?_
  have hle := h.i64
  have kle := k.i64
  obtain ⟨hl1, hl2⟩ := hl
  refine w_seq ?_
  refine w_region ?_
  refine wl_det rfl rfl rfl (op_assign rfl) ?_
  refine wl_nil ?_
  refine st_tn ?_
  refine w_seq ?_
  refine w_region ?_
  refine wl_det rfl rfl rfl (op_assign rfl) ?_
  refine wl_nil ?_
  refine st_tn ?_
  refine w_seq ?_
  refine w_seq ?_
  refine w_region ?_
  refine wl_det rfl rfl rfl (op_assign rfl) ?_
  refine wl_nil ?_
  refine st_tn ?_
  refine w_block ?_
  refine w_loopQ (X := Bool × Nat × List Int × List Bool) (fun z => z.2.1 ≤ l.length ∧ z.2.2.1 = valV ns (relF (l.take z.2.1) (f, false)).1 ∧ z.2.2.2 = hasV ns (relF (l.take z.2.1) (f, false)).1 ∧ z.1 = (relF (l.take z.2.1) (f, false)).2) (fun z => [(9, .bool (z.1)), (10, .int .i64 (z.2.1))]) (fun z => [(501, slW 3 SL.encZ 1 (.slice a501 (ns.length) c501) (z.2.2.1)), (502, slW 4 encB 1 (.slice a502 (ns.length) c502) (z.2.2.2))]) (fun z => l.length - z.2.1) ((_, 0, valV ns f, hasV ns f)) [(0, _), (1, _), (2, _), (3, _)] [] [501, 502] rfl (rfl) (.cons rfl (.cons rfl (.nil _))) (.cons rfl (.cons rfl (.cons rfl (.cons rfl (.nil _))))) (by
      try dsimp only
      exact ⟨Nat.zero_le _, rfl, rfl, rfl⟩) ?_
  rintro ⟨ch, i, V, H⟩ ⟨hi, hV, hH, hch⟩
  refine w_norm2 (by dsimp only [List.cons_append, List.nil_append]) (by dsimp only [List.cons_append, List.nil_append]) ?_
  try dsimp only at hi hV hH hch ⊢
  refine w_seq ?_
  refine w_seq ?_
  refine w_region ?_
  refine wl_det rfl rfl rfl (op_move rfl) ?_
  refine wl_det rfl rfl rfl (op_move rfl) ?_
  refine wl_det rfl rfl rfl (op_lenT rfl tS24o (Sl.ent (by first | exact Sl.app (by assumption) _ | exact Sl.app (Sl.app (by assumption) _) _))) ?_
  refine wl_det rfl rfl rfl (op_lss rfl rfl) ?_
  refine wl_nil ?_
  refine st_tn ?_
  refine w_cond_d rfl (fun hc16 => ?_) (fun hc16 => ?_)
  · -- c16.t
    obtain ⟨x, hx⟩ := getE (l := l) (i := i) (by omega)
    have hlt := ltE hx
    have hbd := bdF_rel (b := false) hf hl1 i (by omega)
    have hsn : relF (l.take (i + 1)) (f, false) = stepF x (relF (l.take i) (f, false)) := by rw [take_snoc hx, relF_snoc]
    obtain ⟨hf1, ht1⟩ := hns x (List.mem_of_getElem? hx)
    obtain ⟨ia, hia, hna⟩ := idxL_mem hf1
    obtain ⟨ib, hib, hnb⟩ := idxL_mem ht1
    have hxb := hl1 x (List.mem_of_getElem? hx)
    generalize relF (l.take i) (f, false) = g at hV hH hch hbd hsn
    have hVa : V[ia]? = some ((g.1 x.f).getD 0) := by rw [hV]; exact get_map _ hna
    have hVb : V[ib]? = some ((g.1 x.t).getD 0) := by rw [hV]; exact get_map _ hnb
    have hHa : H[ia]? = some (g.1 x.f).isSome := by rw [hH]; exact get_map _ hna
    have hHb : H[ib]? = some (g.1 x.t).isSome := by rw [hH]; exact get_map _ hnb
    have hVl : V.length = ns.length := by rw [hV, valV_len]
    have hHl : H.length = ns.length := by rw [hH, hasV_len]
    have hla := (List.getElem?_eq_some_iff.1 hna).1
    have hlb := (List.getElem?_eq_some_iff.1 hnb).1
    have hba : -(m + 4096 * (i : Int)) ≤ (g.1 x.f).getD 0 ∧ (g.1 x.f).getD 0 ≤ m + 4096 * (i : Int) := by
      cases hg : g.1 x.f with
      | none => simp; omega
      | some y => exact hbd _ _ hg
    have hda : Value.bool (g.1 x.f).isSome = Value.bool (decide ((g.1 x.f).isSome = true)) := by cases (g.1 x.f).isSome <;> rfl
    have hdb : Value.bool (g.1 x.t).isSome = Value.bool (decide ((g.1 x.t).isSome = true)) := by cases (g.1 x.t).isSome <;> rfl
    refine w_skip ?_
    refine st_tn ?_
    refine w_seq ?_
    refine w_block ?_
    refine w_seq ?_
    refine w_drawW (fun β => [⟨19, [], [], [], noW (_), false, [], []⟩, ⟨20, [], [], [], noW (_), false, [], []⟩, ⟨21, [], [], [], noW (_), false, [], []⟩, ⟨22, [1, 2], [], [], noW (_), false, [], []⟩, ⟨23, [3], [], [], noW (_), false, [], []⟩, ⟨24, [4], [], [], noW (_), false, [], []⟩, ⟨25, [0, 5], [], [], noW (_), false, [], []⟩, ⟨26, [], [], [], noW (_), false, [], []⟩, ⟨27, [], [], [], noW (_), false, [], []⟩, ⟨28, [], [], [], noW (_), false, [], []⟩, ⟨29, [8, 9], [], [], noW (_), false, [], []⟩, ⟨30, [10], [], [], noW (_), false, [], []⟩, ⟨31, [11], [], [], noW (_), false, [], []⟩]) [] [1, 0, 10] [⟨19, [], [], false, [], []⟩, ⟨20, [], [], false, [], []⟩, ⟨21, [], [], false, [], []⟩, ⟨22, [1, 2], [], false, [], []⟩, ⟨23, [3], [], false, [], []⟩, ⟨24, [4], [], false, [], []⟩, ⟨25, [0, 5], [], false, [], []⟩, ⟨26, [], [], false, [], []⟩, ⟨27, [], [], false, [], []⟩, ⟨28, [], [], false, [], []⟩, ⟨29, [8, 9], [], false, [], []⟩, ⟨30, [10], [], false, [], []⟩, ⟨31, [11], [], false, [], []⟩] [[], [], [], [], [], [], [], [], [], [], [], [], []] [[], [], [], [], [], [], [], [], [], [], [], [], []] tMixo (fun _ => by rfl) (fun _ => by rfl) (by kernel_rfl) (by kernel_rfl) (by rfl) (by rfl)
        (fun β => ⟨.p rfl (by intro X; exact op_move rfl),
        ⟨.p rfl (by intro X; exact op_move rfl),
        ⟨.p rfl (by intro X; exact op_move rfl),
        ⟨.p rfl (by intro X; rintro _ _ ⟨rfl, rfl⟩ _ _ ⟨rfl, rfl⟩; exact op_idx rfl rfl tS24o (Sl.ent (by first | exact Sl.app (by assumption) _ | exact Sl.app (Sl.app (by assumption) _) _)) (by omega)),
        ⟨.p rfl (by intro X; rintro _ _ ⟨rfl, rfl⟩; exact op_fieldAddr (off := 0) rfl tF34_0o),
        ⟨.p rfl (by intro X; rintro _ _ ⟨rfl, rfl⟩; exact op_ldxf rfl tO3o (by first | exact Sl.app (by assumption) _ | exact Sl.app (Sl.app (by assumption) _) _) (by assumption) (by rfl)),
        ⟨.p rfl (by intro X; rintro _ _ ⟨rfl, rfl⟩ _ _ ⟨rfl, rfl⟩; exact op_val (v' := .int .i64 (ia : Nat)) (by rw [hia]) (op_fn Try.func51 rfl rfl rfl (rindex_any _ (by first | exact Sl.app (by assumption) _ | exact Sl.app (Sl.app (by assumption) _) _)))),
        ⟨.p rfl (by intro X; exact op_move rfl),
        ⟨.p rfl (by intro X; exact op_move rfl),
        ⟨.p rfl (by intro X; exact op_move rfl),
        ⟨.p rfl (by intro X; rintro _ _ ⟨rfl, rfl⟩ _ _ ⟨rfl, rfl⟩; exact op_idx rfl rfl tS24o (Sl.ent (by first | exact Sl.app (by assumption) _ | exact Sl.app (Sl.app (by assumption) _) _)) (by omega)),
        ⟨.p rfl (by intro X; rintro _ _ ⟨rfl, rfl⟩; exact op_fieldAddr (off := 1) rfl tF34_1o),
        ⟨.p rfl (by intro X; rintro _ _ ⟨rfl, rfl⟩; exact op_ldxf rfl tO3o (by first | exact Sl.app (by assumption) _ | exact Sl.app (Sl.app (by assumption) _) _) (by assumption) (by rfl)),
        trivial⟩⟩⟩⟩⟩⟩⟩⟩⟩⟩⟩⟩⟩)
        (fun β β' => ⟨fun _ => by rfl, ⟨fun _ => by rfl, ⟨fun _ => by rfl, ⟨fun _ => by rfl, ⟨fun _ => by rfl, ⟨fun _ => by rfl, ⟨fun _ => by rfl, ⟨fun _ => by rfl, ⟨fun _ => by rfl, ⟨fun _ => by rfl, ⟨fun _ => by rfl, ⟨fun _ => by rfl, ⟨fun _ => by rfl, trivial⟩⟩⟩⟩⟩⟩⟩⟩⟩⟩⟩⟩⟩) ?_
    intro β
    rintro _ _ ⟨rfl, rfl⟩ _ _ ⟨rfl, rfl⟩ _ _ ⟨rfl, rfl⟩ _ _ ⟨rfl, rfl⟩ _ _ ⟨rfl, rfl⟩ _ _ ⟨rfl, rfl⟩ _ _ ⟨rfl, rfl⟩ _ _ ⟨rfl, rfl⟩ _ _ ⟨rfl, rfl⟩ _ _ ⟨rfl, rfl⟩ _ _ ⟨rfl, rfl⟩ _ _ ⟨rfl, rfl⟩ _ _ ⟨rfl, rfl⟩
    refine wl_norm (e' := [(0, _), (1, _), (2, _), (3, _), (9, _), (10, _), (25, _), (26, _), (31, _)]) (.cons rfl (.cons rfl (.cons rfl (.cons rfl (.cons rfl (.cons rfl (.cons rfl (.cons rfl (.cons rfl (.nil _)))))))))) (by dsimp only [cond_false, cond_true, List.nil_append, List.cons_append]) ?_
    refine wl_det rfl rfl rfl (op_val (v' := .int .i64 (ib : Nat)) (by rw [hib]) (op_fn Try.func51 rfl rfl rfl (rindex_any _ (by first | exact Sl.app (by assumption) _ | exact Sl.app (Sl.app (by assumption) _) _)))) ?_
    refine wl_det rfl rfl rfl (op_assign rfl) ?_
    refine wl_det rfl rfl rfl (op_assign rfl) ?_
    refine wl_nil ?_
    refine st_tn ?_
    refine w_seq ?_
    refine w_cutL [(60, .bool (decide (updC x g.1 = true)))] [0, 1, 2, 3, 9, 10, 11, 12] [501, 502] rfl (fun K' hK => ?_) ?_
    · -- cut r6
      by_cases ga : (g.1 x.f).isSome = true
      · -- ga True
        by_cases gb : ¬ (g.1 x.t).isSome = true
        · -- gb True
          refine w_drawW (fun β => [⟨33, [], [], [], noW (_), false, [], []⟩, ⟨34, [], [], [], noW (_), false, [], []⟩, ⟨35, [0, 1], [], [], noW (_), false, [], []⟩, ⟨36, [2], [], [], noW (_), false, [], []⟩, ⟨37, [3], [], [], noW (_), false, [], []⟩, ⟨38, [], [], [], noW (_), false, [], []⟩, ⟨39, [], [], [], noW (_), false, [], []⟩, ⟨40, [5, 6], [], [], noW (_), false, [], []⟩, ⟨41, [7], [], [], noW (_), false, [], []⟩, ⟨42, [8], [], [], noW (_), false, [], []⟩, ⟨43, [9], [], [], noW (_), false, [], []⟩, ⟨44, [], [], [], noW (Det undef), false, [], []⟩, ⟨45, [], [], [], noW (Det undef), false, [], []⟩, ⟨46, [], [], [], noW (Det undef), false, [], []⟩, ⟨47, [], [], [], noW (Det undef), false, [], []⟩, ⟨48, [], [], [], noW (Det undef), false, [], []⟩, ⟨49, [], [], [], noW (Det undef), false, [], []⟩, ⟨50, [], [], [], noW (Det undef), false, [], []⟩, ⟨51, [], [], [], noW (Det undef), false, [], []⟩, ⟨52, [], [], [], noW (Det undef), false, [], []⟩, ⟨53, [], [], [], noW (Det undef), false, [], []⟩, ⟨54, [], [], [], noW (Det undef), false, [], []⟩, ⟨55, [], [], [], noW (Det undef), false, [], []⟩, ⟨56, [], [], [], noW (Det undef), false, [], []⟩, ⟨57, [], [], [], noW (Det undef), false, [], []⟩, ⟨58, [], [], [], noW (Det undef), false, [], []⟩, ⟨59, [10, 25], [], [], noW (_), false, [], []⟩, ⟨60, [4, 26], [], [], noW (_), false, [], []⟩]) [] [3, 11, 12, 2, 0, 10] [⟨33, [], [], false, [], []⟩, ⟨34, [], [], false, [], []⟩, ⟨35, [0, 1], [], false, [], []⟩, ⟨36, [2], [], false, [], []⟩, ⟨37, [3], [], false, [], []⟩, ⟨38, [], [], false, [], []⟩, ⟨39, [], [], false, [], []⟩, ⟨40, [5, 6], [], false, [], []⟩, ⟨41, [7], [], false, [], []⟩, ⟨42, [8], [], false, [], []⟩, ⟨43, [9], [], false, [], []⟩, ⟨44, [], [], false, [], []⟩, ⟨45, [], [], false, [], []⟩, ⟨46, [], [], false, [], []⟩, ⟨47, [], [], false, [], []⟩, ⟨48, [], [], false, [], []⟩, ⟨49, [], [], false, [], []⟩, ⟨50, [], [], false, [], []⟩, ⟨51, [], [], false, [], []⟩, ⟨52, [], [], false, [], []⟩, ⟨53, [], [], false, [], []⟩, ⟨54, [], [], false, [], []⟩, ⟨55, [], [], false, [], []⟩, ⟨56, [], [], false, [], []⟩, ⟨57, [], [], false, [], []⟩, ⟨58, [], [], false, [], []⟩, ⟨59, [10, 25], [], false, [], []⟩, ⟨60, [4, 26], [], false, [], []⟩] [[], [], [], [], [], [], [], [], [], [], [], [], [], [], [], [], [], [], [], [], [], [], [], [], [], [], [], []] [[], [], [], [], [], [], [], [], [], [], [], [], [], [], [], [], [], [], [], [], [], [], [], [], [], [], [], []] tMixo (fun _ => by rfl) (fun _ => by rfl) (by kernel_rfl) (by kernel_rfl) (by rfl) (by rfl)
              (fun β => ⟨.p rfl (by intro X; exact op_move rfl),
              ⟨.p rfl (by intro X; exact op_move rfl),
              ⟨.p rfl (by intro X; rintro _ _ ⟨rfl, rfl⟩ _ _ ⟨rfl, rfl⟩; exact op_idx rfl rfl tS84o (Sl.ent (Sl.lab 502 rfl (by unfold maxLen; omega))) (by omega)),
              ⟨.p rfl (by intro X; rintro _ _ ⟨rfl, rfl⟩; exact op_val (v' := .bool (decide ((g.1 x.f).isSome = true))) (by exact hda) (op_ldx rfl tO4o (Sl.lab 502 rfl (by unfold maxLen; omega)) (by assumption) (by rfl))),
              ⟨.p rfl (by intro X; rintro _ _ ⟨rfl, rfl⟩; exact op_move rfl),
              ⟨.w rfl rfl rfl (by rintro _ _ ⟨rfl, rfl⟩; first | rfl | (exact congrArg Value.bool (decide_eq_true (by omega))) | (exact congrArg Value.bool (decide_eq_false (by omega))) | (simp; done) | (simp; omega) | (simp [*]; done)) (by intro X; exact op_move rfl),
              ⟨.w rfl rfl rfl (by rintro _ _ ⟨rfl, rfl⟩; first | rfl | (exact congrArg Value.bool (decide_eq_true (by omega))) | (exact congrArg Value.bool (decide_eq_false (by omega))) | (simp; done) | (simp; omega) | (simp [*]; done)) (by intro X; exact op_move rfl),
              ⟨.w rfl rfl rfl (by rintro _ _ ⟨rfl, rfl⟩; first | rfl | (exact congrArg Value.bool (decide_eq_true (by omega))) | (exact congrArg Value.bool (decide_eq_false (by omega))) | (simp; done) | (simp; omega) | (simp [*]; done)) (by intro X; rintro _ _ ⟨rfl, rfl⟩ _ _ ⟨rfl, rfl⟩; exact op_idx rfl rfl tS84o (Sl.ent (Sl.lab 502 rfl (by unfold maxLen; omega))) (by omega)),
              ⟨.w rfl rfl rfl (by rintro _ _ ⟨rfl, rfl⟩; first | rfl | (exact congrArg Value.bool (decide_eq_true (by omega))) | (exact congrArg Value.bool (decide_eq_false (by omega))) | (simp; done) | (simp; omega) | (simp [*]; done)) (by intro X; rintro _ _ ⟨rfl, rfl⟩; exact op_val (v' := .bool (decide ((g.1 x.t).isSome = true))) (by exact hdb) (op_ldx rfl tO4o (Sl.lab 502 rfl (by unfold maxLen; omega)) (by assumption) (by rfl))),
              ⟨.w rfl rfl rfl (by rintro _ _ ⟨rfl, rfl⟩; first | rfl | (exact congrArg Value.bool (decide_eq_true (by omega))) | (exact congrArg Value.bool (decide_eq_false (by omega))) | (simp; done) | (simp; omega) | (simp [*]; done)) (by intro X; rintro _ _ ⟨rfl, rfl⟩; exact op_not_d rfl),
              ⟨.w rfl rfl rfl (by rintro _ _ ⟨rfl, rfl⟩; first | rfl | (exact congrArg Value.bool (decide_eq_true (by omega))) | (exact congrArg Value.bool (decide_eq_false (by omega))) | (simp; done) | (simp; omega) | (simp [*]; done)) (by intro X; rintro _ _ ⟨rfl, rfl⟩; exact op_move rfl),
              ⟨.u rfl rfl rfl (by rintro _ _ ⟨rfl, rfl⟩; exact congrArg (offB false) (by first | rfl | (exact congrArg Value.bool (decide_eq_true (by omega))) | (exact congrArg Value.bool (decide_eq_false (by omega))) | (simp; done) | (simp; omega) | (simp [*]; done) : _ = Value.bool true)) ⟨rfl, rfl⟩ rfl rfl,
              ⟨.u rfl rfl rfl (by rintro _ _ ⟨rfl, rfl⟩; exact congrArg (offB false) (by first | rfl | (exact congrArg Value.bool (decide_eq_true (by omega))) | (exact congrArg Value.bool (decide_eq_false (by omega))) | (simp; done) | (simp; omega) | (simp [*]; done) : _ = Value.bool true)) ⟨rfl, rfl⟩ rfl rfl,
              ⟨.u rfl rfl rfl (by rintro _ _ ⟨rfl, rfl⟩; exact congrArg (offB false) (by first | rfl | (exact congrArg Value.bool (decide_eq_true (by omega))) | (exact congrArg Value.bool (decide_eq_false (by omega))) | (simp; done) | (simp; omega) | (simp [*]; done) : _ = Value.bool true)) ⟨rfl, rfl⟩ rfl rfl,
              ⟨.u rfl rfl rfl (by rintro _ _ ⟨rfl, rfl⟩; exact congrArg (offB false) (by first | rfl | (exact congrArg Value.bool (decide_eq_true (by omega))) | (exact congrArg Value.bool (decide_eq_false (by omega))) | (simp; done) | (simp; omega) | (simp [*]; done) : _ = Value.bool true)) ⟨rfl, rfl⟩ rfl rfl,
              ⟨.u rfl rfl rfl (by rintro _ _ ⟨rfl, rfl⟩; exact congrArg (offB false) (by first | rfl | (exact congrArg Value.bool (decide_eq_true (by omega))) | (exact congrArg Value.bool (decide_eq_false (by omega))) | (simp; done) | (simp; omega) | (simp [*]; done) : _ = Value.bool true)) ⟨rfl, rfl⟩ rfl rfl,
              ⟨.u rfl rfl rfl (by rintro _ _ ⟨rfl, rfl⟩; exact congrArg (offB false) (by first | rfl | (exact congrArg Value.bool (decide_eq_true (by omega))) | (exact congrArg Value.bool (decide_eq_false (by omega))) | (simp; done) | (simp; omega) | (simp [*]; done) : _ = Value.bool true)) ⟨rfl, rfl⟩ rfl rfl,
              ⟨.u rfl rfl rfl (by rintro _ _ ⟨rfl, rfl⟩; exact congrArg (offB false) (by first | rfl | (exact congrArg Value.bool (decide_eq_true (by omega))) | (exact congrArg Value.bool (decide_eq_false (by omega))) | (simp; done) | (simp; omega) | (simp [*]; done) : _ = Value.bool true)) ⟨rfl, rfl⟩ rfl rfl,
              ⟨.u rfl rfl rfl (by rintro _ _ ⟨rfl, rfl⟩; exact congrArg (offB false) (by first | rfl | (exact congrArg Value.bool (decide_eq_true (by omega))) | (exact congrArg Value.bool (decide_eq_false (by omega))) | (simp; done) | (simp; omega) | (simp [*]; done) : _ = Value.bool true)) ⟨rfl, rfl⟩ rfl rfl,
              ⟨.u rfl rfl rfl (by rintro _ _ ⟨rfl, rfl⟩; exact congrArg (offB false) (by first | rfl | (exact congrArg Value.bool (decide_eq_true (by omega))) | (exact congrArg Value.bool (decide_eq_false (by omega))) | (simp; done) | (simp; omega) | (simp [*]; done) : _ = Value.bool true)) ⟨rfl, rfl⟩ rfl rfl,
              ⟨.u rfl rfl rfl (by rintro _ _ ⟨rfl, rfl⟩; exact congrArg (offB false) (by first | rfl | (exact congrArg Value.bool (decide_eq_true (by omega))) | (exact congrArg Value.bool (decide_eq_false (by omega))) | (simp; done) | (simp; omega) | (simp [*]; done) : _ = Value.bool true)) ⟨rfl, rfl⟩ rfl rfl,
              ⟨.u rfl rfl rfl (by rintro _ _ ⟨rfl, rfl⟩; exact congrArg (offB false) (by first | rfl | (exact congrArg Value.bool (decide_eq_true (by omega))) | (exact congrArg Value.bool (decide_eq_false (by omega))) | (simp; done) | (simp; omega) | (simp [*]; done) : _ = Value.bool true)) ⟨rfl, rfl⟩ rfl rfl,
              ⟨.u rfl rfl rfl (by rintro _ _ ⟨rfl, rfl⟩; exact congrArg (offB false) (by first | rfl | (exact congrArg Value.bool (decide_eq_true (by omega))) | (exact congrArg Value.bool (decide_eq_false (by omega))) | (simp; done) | (simp; omega) | (simp [*]; done) : _ = Value.bool true)) ⟨rfl, rfl⟩ rfl rfl,
              ⟨.u rfl rfl rfl (by rintro _ _ ⟨rfl, rfl⟩; exact congrArg (offB false) (by first | rfl | (exact congrArg Value.bool (decide_eq_true (by omega))) | (exact congrArg Value.bool (decide_eq_false (by omega))) | (simp; done) | (simp; omega) | (simp [*]; done) : _ = Value.bool true)) ⟨rfl, rfl⟩ rfl rfl,
              ⟨.u rfl rfl rfl (by rintro _ _ ⟨rfl, rfl⟩; exact congrArg (offB false) (by first | rfl | (exact congrArg Value.bool (decide_eq_true (by omega))) | (exact congrArg Value.bool (decide_eq_false (by omega))) | (simp; done) | (simp; omega) | (simp [*]; done) : _ = Value.bool true)) ⟨rfl, rfl⟩ rfl rfl,
              ⟨.u rfl rfl rfl (by rintro _ _ ⟨rfl, rfl⟩; exact congrArg (offB false) (by first | rfl | (exact congrArg Value.bool (decide_eq_true (by omega))) | (exact congrArg Value.bool (decide_eq_false (by omega))) | (simp; done) | (simp; omega) | (simp [*]; done) : _ = Value.bool true)) ⟨rfl, rfl⟩ rfl rfl,
              ⟨.w rfl rfl rfl (by rintro _ _ ⟨rfl, rfl⟩; first | rfl | (exact congrArg Value.bool (decide_eq_true (by omega))) | (exact congrArg Value.bool (decide_eq_false (by omega))) | (simp; done) | (simp; omega) | (simp [*]; done)) (by intro X; rintro _ _ ⟨rfl, rfl⟩ _ _ ⟨rfl, rfl⟩; exact op_pick_t (by first | rfl | (show some (Value.bool (decide _)) = _; rw [decide_eq_true (by omega)]) | (show some (Value.bool (decide _)) = _; rw [decide_eq_false (by omega)]) | (simp [ev, lk]; done) | (simp [ev, lk]; omega) | (simp [ev, lk, *]; done)) rfl),
              ⟨.p rfl (by intro X; rintro _ _ ⟨rfl, rfl⟩ _ _ ⟨rfl, rfl⟩; exact op_pick_t (by first | rfl | (show some (Value.bool (decide _)) = _; rw [decide_eq_true (by omega)]) | (show some (Value.bool (decide _)) = _; rw [decide_eq_false (by omega)]) | (simp [ev, lk]; done) | (simp [ev, lk]; omega) | (simp [ev, lk, *]; done)) rfl),
              trivial⟩⟩⟩⟩⟩⟩⟩⟩⟩⟩⟩⟩⟩⟩⟩⟩⟩⟩⟩⟩⟩⟩⟩⟩⟩⟩⟩⟩)
              (fun β β' => ⟨fun _ => by rfl, ⟨fun _ => by rfl, ⟨fun _ => by rfl, ⟨fun _ => by rfl, ⟨fun _ => by rfl, ⟨fun _ => by rfl, ⟨fun _ => by rfl, ⟨fun _ => by rfl, ⟨fun _ => by rfl, ⟨fun _ => by rfl, ⟨fun _ => by rfl, ⟨fun _ => by rfl, ⟨fun _ => by rfl, ⟨fun _ => by rfl, ⟨fun _ => by rfl, ⟨fun _ => by rfl, ⟨fun _ => by rfl, ⟨fun _ => by rfl, ⟨fun _ => by rfl, ⟨fun _ => by rfl, ⟨fun _ => by rfl, ⟨fun _ => by rfl, ⟨fun _ => by rfl, ⟨fun _ => by rfl, ⟨fun _ => by rfl, ⟨fun _ => by rfl, ⟨fun _ => by rfl, ⟨fun _ => by rfl, trivial⟩⟩⟩⟩⟩⟩⟩⟩⟩⟩⟩⟩⟩⟩⟩⟩⟩⟩⟩⟩⟩⟩⟩⟩⟩⟩⟩⟩) ?_
          intro β
          rintro _ _ ⟨rfl, rfl⟩ _ _ ⟨rfl, rfl⟩ _ _ ⟨rfl, rfl⟩ _ _ ⟨rfl, rfl⟩ _ _ ⟨rfl, rfl⟩ _ _ ⟨rfl, rfl⟩ _ _ ⟨rfl, rfl⟩ _ _ ⟨rfl, rfl⟩ _ _ ⟨rfl, rfl⟩ _ _ ⟨rfl, rfl⟩ _ _ ⟨rfl, rfl⟩ _ _ ⟨rfl, rfl⟩ _ _ ⟨rfl, rfl⟩ _ _ ⟨rfl, rfl⟩ _ _ ⟨rfl, rfl⟩ _ _ ⟨rfl, rfl⟩ _ _ ⟨rfl, rfl⟩ _ _ ⟨rfl, rfl⟩ _ _ ⟨rfl, rfl⟩ _ _ ⟨rfl, rfl⟩ _ _ ⟨rfl, rfl⟩ _ _ ⟨rfl, rfl⟩ _ _ ⟨rfl, rfl⟩ _ _ ⟨rfl, rfl⟩ _ _ ⟨rfl, rfl⟩ _ _ ⟨rfl, rfl⟩ _ _ ⟨rfl, rfl⟩ _ _ ⟨rfl, rfl⟩
          refine wl_norm (e' := [(0, _), (1, _), (2, _), (3, _), (9, _), (10, _), (11, _), (12, _), (60, _)]) (.cons rfl (.cons rfl (.cons rfl (.cons rfl (.cons rfl (.cons rfl (.cons rfl (.cons rfl (.cons rfl (.nil _)))))))))) (by dsimp only [cond_false, cond_true, List.nil_append, List.cons_append]) ?_
          refine wl_nil ?_
          refine st_tn ?_
          exact cut_done1 [501, 502] hK rfl (by clear hV hH hch hbd hsn hVa hVb hHa hHb hba hda hdb; unfold updC; cases h1 : g.1 x.f <;> cases h2 : g.1 x.t <;> simp_all) (by rfl) rfl rfl
        · -- gb False
          refine w_drawW (fun β => [⟨33, [], [], [], noW (_), false, [], []⟩, ⟨34, [], [], [], noW (_), false, [], []⟩, ⟨35, [0, 1], [], [], noW (_), false, [], []⟩, ⟨36, [2], [], [], noW (_), false, [], []⟩, ⟨37, [3], [], [], noW (_), false, [], []⟩, ⟨38, [], [], [], noW (_), false, [], []⟩, ⟨39, [], [], [], noW (_), false, [], []⟩, ⟨40, [5, 6], [], [], noW (_), false, [], []⟩, ⟨41, [7], [], [], noW (_), false, [], []⟩, ⟨42, [8], [], [], noW (_), false, [], []⟩, ⟨43, [9], [], [], noW (_), false, [], []⟩, ⟨44, [], [], [], noW (_), false, [], []⟩, ⟨45, [], [], [], noW (_), false, [], []⟩, ⟨46, [11, 12], [], [], noW (_), false, [], []⟩, ⟨47, [13], [], [], noW (_), false, [], []⟩, ⟨48, [], [], [], noW (_), false, [], []⟩, ⟨49, [], [], [], noW (_), false, [], []⟩, ⟨50, [15, 16], [], [], noW (_), false, [], []⟩, ⟨51, [17], [], [], noW (_), false, [], []⟩, ⟨52, [18], [], [], noW (_), false, [], []⟩, ⟨53, [14, 19], [], [], noW (_), false, [], []⟩, ⟨54, [], [], [], noW (_), false, [], []⟩, ⟨55, [], [], [], noW (_), false, [], []⟩, ⟨56, [21, 22], [], [], noW (_), false, [], []⟩, ⟨57, [23], [], [], noW (_), false, [], []⟩, ⟨58, [20, 24], [], [], noW (_), false, [], []⟩, ⟨59, [10, 25], [], [], noW (_), false, [], []⟩, ⟨60, [4, 26], [], [], noW (_), false, [], []⟩]) [] [3, 11, 12, 2, 0, 10] [⟨33, [], [], false, [], []⟩, ⟨34, [], [], false, [], []⟩, ⟨35, [0, 1], [], false, [], []⟩, ⟨36, [2], [], false, [], []⟩, ⟨37, [3], [], false, [], []⟩, ⟨38, [], [], false, [], []⟩, ⟨39, [], [], false, [], []⟩, ⟨40, [5, 6], [], false, [], []⟩, ⟨41, [7], [], false, [], []⟩, ⟨42, [8], [], false, [], []⟩, ⟨43, [9], [], false, [], []⟩, ⟨44, [], [], false, [], []⟩, ⟨45, [], [], false, [], []⟩, ⟨46, [11, 12], [], false, [], []⟩, ⟨47, [13], [], false, [], []⟩, ⟨48, [], [], false, [], []⟩, ⟨49, [], [], false, [], []⟩, ⟨50, [15, 16], [], false, [], []⟩, ⟨51, [17], [], false, [], []⟩, ⟨52, [18], [], false, [], []⟩, ⟨53, [14, 19], [], false, [], []⟩, ⟨54, [], [], false, [], []⟩, ⟨55, [], [], false, [], []⟩, ⟨56, [21, 22], [], false, [], []⟩, ⟨57, [23], [], false, [], []⟩, ⟨58, [20, 24], [], false, [], []⟩, ⟨59, [10, 25], [], false, [], []⟩, ⟨60, [4, 26], [], false, [], []⟩] [[], [], [], [], [], [], [], [], [], [], [], [], [], [], [], [], [], [], [], [], [], [], [], [], [], [], [], []] [[], [], [], [], [], [], [], [], [], [], [], [], [], [], [], [], [], [], [], [], [], [], [], [], [], [], [], []] tMixo (fun _ => by rfl) (fun _ => by rfl) (by kernel_rfl) (by kernel_rfl) (by rfl) (by rfl)
              (fun β => ⟨.p rfl (by intro X; exact op_move rfl),
              ⟨.p rfl (by intro X; exact op_move rfl),
              ⟨.p rfl (by intro X; rintro _ _ ⟨rfl, rfl⟩ _ _ ⟨rfl, rfl⟩; exact op_idx rfl rfl tS84o (Sl.ent (Sl.lab 502 rfl (by unfold maxLen; omega))) (by omega)),
              ⟨.p rfl (by intro X; rintro _ _ ⟨rfl, rfl⟩; exact op_val (v' := .bool (decide ((g.1 x.f).isSome = true))) (by exact hda) (op_ldx rfl tO4o (Sl.lab 502 rfl (by unfold maxLen; omega)) (by assumption) (by rfl))),
              ⟨.p rfl (by intro X; rintro _ _ ⟨rfl, rfl⟩; exact op_move rfl),
              ⟨.w rfl rfl rfl (by rintro _ _ ⟨rfl, rfl⟩; first | rfl | (exact congrArg Value.bool (decide_eq_true (by omega))) | (exact congrArg Value.bool (decide_eq_false (by omega))) | (simp; done) | (simp; omega) | (simp [*]; done)) (by intro X; exact op_move rfl),
              ⟨.w rfl rfl rfl (by rintro _ _ ⟨rfl, rfl⟩; first | rfl | (exact congrArg Value.bool (decide_eq_true (by omega))) | (exact congrArg Value.bool (decide_eq_false (by omega))) | (simp; done) | (simp; omega) | (simp [*]; done)) (by intro X; exact op_move rfl),
              ⟨.w rfl rfl rfl (by rintro _ _ ⟨rfl, rfl⟩; first | rfl | (exact congrArg Value.bool (decide_eq_true (by omega))) | (exact congrArg Value.bool (decide_eq_false (by omega))) | (simp; done) | (simp; omega) | (simp [*]; done)) (by intro X; rintro _ _ ⟨rfl, rfl⟩ _ _ ⟨rfl, rfl⟩; exact op_idx rfl rfl tS84o (Sl.ent (Sl.lab 502 rfl (by unfold maxLen; omega))) (by omega)),
              ⟨.w rfl rfl rfl (by rintro _ _ ⟨rfl, rfl⟩; first | rfl | (exact congrArg Value.bool (decide_eq_true (by omega))) | (exact congrArg Value.bool (decide_eq_false (by omega))) | (simp; done) | (simp; omega) | (simp [*]; done)) (by intro X; rintro _ _ ⟨rfl, rfl⟩; exact op_val (v' := .bool (decide ((g.1 x.t).isSome = true))) (by exact hdb) (op_ldx rfl tO4o (Sl.lab 502 rfl (by unfold maxLen; omega)) (by assumption) (by rfl))),
              ⟨.w rfl rfl rfl (by rintro _ _ ⟨rfl, rfl⟩; first | rfl | (exact congrArg Value.bool (decide_eq_true (by omega))) | (exact congrArg Value.bool (decide_eq_false (by omega))) | (simp; done) | (simp; omega) | (simp [*]; done)) (by intro X; rintro _ _ ⟨rfl, rfl⟩; exact op_not_d rfl),
              ⟨.w rfl rfl rfl (by rintro _ _ ⟨rfl, rfl⟩; first | rfl | (exact congrArg Value.bool (decide_eq_true (by omega))) | (exact congrArg Value.bool (decide_eq_false (by omega))) | (simp; done) | (simp; omega) | (simp [*]; done)) (by intro X; rintro _ _ ⟨rfl, rfl⟩; exact op_move rfl),
              ⟨.w rfl rfl rfl (by rintro _ _ ⟨rfl, rfl⟩; first | rfl | (exact congrArg Value.bool (decide_eq_true (by omega))) | (exact congrArg Value.bool (decide_eq_false (by omega))) | (simp; done) | (simp; omega) | (simp [*]; done)) (by intro X; exact op_move rfl),
              ⟨.w rfl rfl rfl (by rintro _ _ ⟨rfl, rfl⟩; first | rfl | (exact congrArg Value.bool (decide_eq_true (by omega))) | (exact congrArg Value.bool (decide_eq_false (by omega))) | (simp; done) | (simp; omega) | (simp [*]; done)) (by intro X; exact op_move rfl),
              ⟨.w rfl rfl rfl (by rintro _ _ ⟨rfl, rfl⟩; first | rfl | (exact congrArg Value.bool (decide_eq_true (by omega))) | (exact congrArg Value.bool (decide_eq_false (by omega))) | (simp; done) | (simp; omega) | (simp [*]; done)) (by intro X; rintro _ _ ⟨rfl, rfl⟩ _ _ ⟨rfl, rfl⟩; exact op_idx rfl rfl tS26o (Sl.ent (Sl.lab 501 rfl (by unfold maxLen; omega))) (by omega)),
              ⟨.w rfl rfl rfl (by rintro _ _ ⟨rfl, rfl⟩; first | rfl | (exact congrArg Value.bool (decide_eq_true (by omega))) | (exact congrArg Value.bool (decide_eq_false (by omega))) | (simp; done) | (simp; omega) | (simp [*]; done)) (by intro X; rintro _ _ ⟨rfl, rfl⟩; exact op_ldx rfl tO3o (Sl.lab 501 rfl (by unfold maxLen; omega)) (by assumption) (by rfl)),
              ⟨.w rfl rfl rfl (by rintro _ _ ⟨rfl, rfl⟩; first | rfl | (exact congrArg Value.bool (decide_eq_true (by omega))) | (exact congrArg Value.bool (decide_eq_false (by omega))) | (simp; done) | (simp; omega) | (simp [*]; done)) (by intro X; exact op_move rfl),
              ⟨.w rfl rfl rfl (by rintro _ _ ⟨rfl, rfl⟩; first | rfl | (exact congrArg Value.bool (decide_eq_true (by omega))) | (exact congrArg Value.bool (decide_eq_false (by omega))) | (simp; done) | (simp; omega) | (simp [*]; done)) (by intro X; exact op_move rfl),
              ⟨.w rfl rfl rfl (by rintro _ _ ⟨rfl, rfl⟩; first | rfl | (exact congrArg Value.bool (decide_eq_true (by omega))) | (exact congrArg Value.bool (decide_eq_false (by omega))) | (simp; done) | (simp; omega) | (simp [*]; done)) (by intro X; rintro _ _ ⟨rfl, rfl⟩ _ _ ⟨rfl, rfl⟩; exact op_idx rfl rfl tS24o (Sl.ent (by first | exact Sl.app (by assumption) _ | exact Sl.app (Sl.app (by assumption) _) _)) (by omega)),
              ⟨.w rfl rfl rfl (by rintro _ _ ⟨rfl, rfl⟩; first | rfl | (exact congrArg Value.bool (decide_eq_true (by omega))) | (exact congrArg Value.bool (decide_eq_false (by omega))) | (simp; done) | (simp; omega) | (simp [*]; done)) (by intro X; rintro _ _ ⟨rfl, rfl⟩; exact op_fieldAddr (off := 2) rfl tF34_2o),
              ⟨.w rfl rfl rfl (by rintro _ _ ⟨rfl, rfl⟩; first | rfl | (exact congrArg Value.bool (decide_eq_true (by omega))) | (exact congrArg Value.bool (decide_eq_false (by omega))) | (simp; done) | (simp; omega) | (simp [*]; done)) (by intro X; rintro _ _ ⟨rfl, rfl⟩; exact op_ldxf rfl tO3o (by first | exact Sl.app (by assumption) _ | exact Sl.app (Sl.app (by assumption) _) _) (by assumption) (by rfl)),
              ⟨.w rfl rfl rfl (by rintro _ _ ⟨rfl, rfl⟩; first | rfl | (exact congrArg Value.bool (decide_eq_true (by omega))) | (exact congrArg Value.bool (decide_eq_false (by omega))) | (simp; done) | (simp; omega) | (simp [*]; done)) (by intro X; rintro _ _ ⟨rfl, rfl⟩ _ _ ⟨rfl, rfl⟩; exact op_add' rfl rfl (by omega)),
              ⟨.w rfl rfl rfl (by rintro _ _ ⟨rfl, rfl⟩; first | rfl | (exact congrArg Value.bool (decide_eq_true (by omega))) | (exact congrArg Value.bool (decide_eq_false (by omega))) | (simp; done) | (simp; omega) | (simp [*]; done)) (by intro X; exact op_move rfl),
              ⟨.w rfl rfl rfl (by rintro _ _ ⟨rfl, rfl⟩; first | rfl | (exact congrArg Value.bool (decide_eq_true (by omega))) | (exact congrArg Value.bool (decide_eq_false (by omega))) | (simp; done) | (simp; omega) | (simp [*]; done)) (by intro X; exact op_move rfl),
              ⟨.w rfl rfl rfl (by rintro _ _ ⟨rfl, rfl⟩; first | rfl | (exact congrArg Value.bool (decide_eq_true (by omega))) | (exact congrArg Value.bool (decide_eq_false (by omega))) | (simp; done) | (simp; omega) | (simp [*]; done)) (by intro X; rintro _ _ ⟨rfl, rfl⟩ _ _ ⟨rfl, rfl⟩; exact op_idx rfl rfl tS26o (Sl.ent (Sl.lab 501 rfl (by unfold maxLen; omega))) (by omega)),
              ⟨.w rfl rfl rfl (by rintro _ _ ⟨rfl, rfl⟩; first | rfl | (exact congrArg Value.bool (decide_eq_true (by omega))) | (exact congrArg Value.bool (decide_eq_false (by omega))) | (simp; done) | (simp; omega) | (simp [*]; done)) (by intro X; rintro _ _ ⟨rfl, rfl⟩; exact op_ldx rfl tO3o (Sl.lab 501 rfl (by unfold maxLen; omega)) (by assumption) (by rfl)),
              ⟨.w rfl rfl rfl (by rintro _ _ ⟨rfl, rfl⟩; first | rfl | (exact congrArg Value.bool (decide_eq_true (by omega))) | (exact congrArg Value.bool (decide_eq_false (by omega))) | (simp; done) | (simp; omega) | (simp [*]; done)) (by intro X; rintro _ _ ⟨rfl, rfl⟩ _ _ ⟨rfl, rfl⟩; exact op_lss rfl rfl),
              ⟨.w rfl rfl rfl (by rintro _ _ ⟨rfl, rfl⟩; first | rfl | (exact congrArg Value.bool (decide_eq_true (by omega))) | (exact congrArg Value.bool (decide_eq_false (by omega))) | (simp; done) | (simp; omega) | (simp [*]; done)) (by intro X; rintro _ _ ⟨rfl, rfl⟩ _ _ ⟨rfl, rfl⟩; exact op_pick_f (by first | rfl | (show some (Value.bool (decide _)) = _; rw [decide_eq_true (by omega)]) | (show some (Value.bool (decide _)) = _; rw [decide_eq_false (by omega)]) | (simp [ev, lk]; done) | (simp [ev, lk]; omega) | (simp [ev, lk, *]; done)) rfl),
              ⟨.p rfl (by intro X; rintro _ _ ⟨rfl, rfl⟩ _ _ ⟨rfl, rfl⟩; exact op_pick_t (by first | rfl | (show some (Value.bool (decide _)) = _; rw [decide_eq_true (by omega)]) | (show some (Value.bool (decide _)) = _; rw [decide_eq_false (by omega)]) | (simp [ev, lk]; done) | (simp [ev, lk]; omega) | (simp [ev, lk, *]; done)) rfl),
              trivial⟩⟩⟩⟩⟩⟩⟩⟩⟩⟩⟩⟩⟩⟩⟩⟩⟩⟩⟩⟩⟩⟩⟩⟩⟩⟩⟩⟩)
              (fun β β' => ⟨fun _ => by rfl, ⟨fun _ => by rfl, ⟨fun _ => by rfl, ⟨fun _ => by rfl, ⟨fun _ => by rfl, ⟨fun _ => by rfl, ⟨fun _ => by rfl, ⟨fun _ => by rfl, ⟨fun _ => by rfl, ⟨fun _ => by rfl, ⟨fun _ => by rfl, ⟨fun _ => by rfl, ⟨fun _ => by rfl, ⟨fun _ => by rfl, ⟨fun _ => by rfl, ⟨fun _ => by rfl, ⟨fun _ => by rfl, ⟨fun _ => by rfl, ⟨fun _ => by rfl, ⟨fun _ => by rfl, ⟨fun _ => by rfl, ⟨fun _ => by rfl, ⟨fun _ => by rfl, ⟨fun _ => by rfl, ⟨fun _ => by rfl, ⟨fun _ => by rfl, ⟨fun _ => by rfl, ⟨fun _ => by rfl, trivial⟩⟩⟩⟩⟩⟩⟩⟩⟩⟩⟩⟩⟩⟩⟩⟩⟩⟩⟩⟩⟩⟩⟩⟩⟩⟩⟩⟩) ?_
          intro β
          rintro _ _ ⟨rfl, rfl⟩ _ _ ⟨rfl, rfl⟩ _ _ ⟨rfl, rfl⟩ _ _ ⟨rfl, rfl⟩ _ _ ⟨rfl, rfl⟩ _ _ ⟨rfl, rfl⟩ _ _ ⟨rfl, rfl⟩ _ _ ⟨rfl, rfl⟩ _ _ ⟨rfl, rfl⟩ _ _ ⟨rfl, rfl⟩ _ _ ⟨rfl, rfl⟩ _ _ ⟨rfl, rfl⟩ _ _ ⟨rfl, rfl⟩ _ _ ⟨rfl, rfl⟩ _ _ ⟨rfl, rfl⟩ _ _ ⟨rfl, rfl⟩ _ _ ⟨rfl, rfl⟩ _ _ ⟨rfl, rfl⟩ _ _ ⟨rfl, rfl⟩ _ _ ⟨rfl, rfl⟩ _ _ ⟨rfl, rfl⟩ _ _ ⟨rfl, rfl⟩ _ _ ⟨rfl, rfl⟩ _ _ ⟨rfl, rfl⟩ _ _ ⟨rfl, rfl⟩ _ _ ⟨rfl, rfl⟩ _ _ ⟨rfl, rfl⟩ _ _ ⟨rfl, rfl⟩
          refine wl_norm (e' := [(0, _), (1, _), (2, _), (3, _), (9, _), (10, _), (11, _), (12, _), (60, _)]) (.cons rfl (.cons rfl (.cons rfl (.cons rfl (.cons rfl (.cons rfl (.cons rfl (.cons rfl (.cons rfl (.nil _)))))))))) (by dsimp only [cond_false, cond_true, List.nil_append, List.cons_append]) ?_
          refine wl_nil ?_
          refine st_tn ?_
          exact cut_done1 [501, 502] hK rfl (by clear hV hH hch hbd hsn hVa hVb hHa hHb hba hda hdb; unfold updC; cases h1 : g.1 x.f <;> cases h2 : g.1 x.t <;> simp_all) (by rfl) rfl rfl
      · -- ga False
        refine w_drawW (fun β => [⟨33, [], [], [], noW (_), false, [], []⟩, ⟨34, [], [], [], noW (_), false, [], []⟩, ⟨35, [0, 1], [], [], noW (_), false, [], []⟩, ⟨36, [2], [], [], noW (_), false, [], []⟩, ⟨37, [3], [], [], noW (_), false, [], []⟩, ⟨38, [], [], [], noW (Det undef), false, [], []⟩, ⟨39, [], [], [], noW (Det undef), false, [], []⟩, ⟨40, [], [], [], noW (Det undef), false, [], []⟩, ⟨41, [], [], [], noW (Det undef), false, [], []⟩, ⟨42, [], [], [], noW (Det undef), false, [], []⟩, ⟨43, [], [], [], noW (Det undef), false, [], []⟩, ⟨44, [], [], [], noW (Det undef), false, [], []⟩, ⟨45, [], [], [], noW (Det undef), false, [], []⟩, ⟨46, [], [], [], noW (Det undef), false, [], []⟩, ⟨47, [], [], [], noW (Det undef), false, [], []⟩, ⟨48, [], [], [], noW (Det undef), false, [], []⟩, ⟨49, [], [], [], noW (Det undef), false, [], []⟩, ⟨50, [], [], [], noW (Det undef), false, [], []⟩, ⟨51, [], [], [], noW (Det undef), false, [], []⟩, ⟨52, [], [], [], noW (Det undef), false, [], []⟩, ⟨53, [], [], [], noW (Det undef), false, [], []⟩, ⟨54, [], [], [], noW (Det undef), false, [], []⟩, ⟨55, [], [], [], noW (Det undef), false, [], []⟩, ⟨56, [], [], [], noW (Det undef), false, [], []⟩, ⟨57, [], [], [], noW (Det undef), false, [], []⟩, ⟨58, [], [], [], noW (Det undef), false, [], []⟩, ⟨59, [], [], [], noW (Det undef), false, [], []⟩, ⟨60, [4, 26], [], [], noW (_), false, [], []⟩]) [] [3, 11, 12, 2, 0, 10] [⟨33, [], [], false, [], []⟩, ⟨34, [], [], false, [], []⟩, ⟨35, [0, 1], [], false, [], []⟩, ⟨36, [2], [], false, [], []⟩, ⟨37, [3], [], false, [], []⟩, ⟨38, [], [], false, [], []⟩, ⟨39, [], [], false, [], []⟩, ⟨40, [], [], false, [], []⟩, ⟨41, [], [], false, [], []⟩, ⟨42, [], [], false, [], []⟩, ⟨43, [], [], false, [], []⟩, ⟨44, [], [], false, [], []⟩, ⟨45, [], [], false, [], []⟩, ⟨46, [], [], false, [], []⟩, ⟨47, [], [], false, [], []⟩, ⟨48, [], [], false, [], []⟩, ⟨49, [], [], false, [], []⟩, ⟨50, [], [], false, [], []⟩, ⟨51, [], [], false, [], []⟩, ⟨52, [], [], false, [], []⟩, ⟨53, [], [], false, [], []⟩, ⟨54, [], [], false, [], []⟩, ⟨55, [], [], false, [], []⟩, ⟨56, [], [], false, [], []⟩, ⟨57, [], [], false, [], []⟩, ⟨58, [], [], false, [], []⟩, ⟨59, [], [], false, [], []⟩, ⟨60, [4, 26], [], false, [], []⟩] [[], [], [], [], [], [], [], [], [], [], [], [], [], [], [], [], [], [], [], [], [], [], [], [], [], [], [], []] [[], [], [], [], [], [], [], [], [], [], [], [], [], [], [], [], [], [], [], [], [], [], [], [], [], [], [], []] tMixo (fun _ => by rfl) (fun _ => by rfl) (by kernel_rfl) (by kernel_rfl) (by rfl) (by rfl)
            (fun β => ⟨.p rfl (by intro X; exact op_move rfl),
            ⟨.p rfl (by intro X; exact op_move rfl),
            ⟨.p rfl (by intro X; rintro _ _ ⟨rfl, rfl⟩ _ _ ⟨rfl, rfl⟩; exact op_idx rfl rfl tS84o (Sl.ent (Sl.lab 502 rfl (by unfold maxLen; omega))) (by omega)),
            ⟨.p rfl (by intro X; rintro _ _ ⟨rfl, rfl⟩; exact op_val (v' := .bool (decide ((g.1 x.f).isSome = true))) (by exact hda) (op_ldx rfl tO4o (Sl.lab 502 rfl (by unfold maxLen; omega)) (by assumption) (by rfl))),
            ⟨.p rfl (by intro X; rintro _ _ ⟨rfl, rfl⟩; exact op_move rfl),
            ⟨.u rfl rfl rfl (by rintro _ _ ⟨rfl, rfl⟩; exact congrArg (offB true) (by first | rfl | (exact congrArg Value.bool (decide_eq_true (by omega))) | (exact congrArg Value.bool (decide_eq_false (by omega))) | (simp; done) | (simp; omega) | (simp [*]; done) : _ = Value.bool false)) ⟨rfl, rfl⟩ rfl rfl,
            ⟨.u rfl rfl rfl (by rintro _ _ ⟨rfl, rfl⟩; exact congrArg (offB true) (by first | rfl | (exact congrArg Value.bool (decide_eq_true (by omega))) | (exact congrArg Value.bool (decide_eq_false (by omega))) | (simp; done) | (simp; omega) | (simp [*]; done) : _ = Value.bool false)) ⟨rfl, rfl⟩ rfl rfl,
            ⟨.u rfl rfl rfl (by rintro _ _ ⟨rfl, rfl⟩; exact congrArg (offB true) (by first | rfl | (exact congrArg Value.bool (decide_eq_true (by omega))) | (exact congrArg Value.bool (decide_eq_false (by omega))) | (simp; done) | (simp; omega) | (simp [*]; done) : _ = Value.bool false)) ⟨rfl, rfl⟩ rfl rfl,
            ⟨.u rfl rfl rfl (by rintro _ _ ⟨rfl, rfl⟩; exact congrArg (offB true) (by first | rfl | (exact congrArg Value.bool (decide_eq_true (by omega))) | (exact congrArg Value.bool (decide_eq_false (by omega))) | (simp; done) | (simp; omega) | (simp [*]; done) : _ = Value.bool false)) ⟨rfl, rfl⟩ rfl rfl,
            ⟨.u rfl rfl rfl (by rintro _ _ ⟨rfl, rfl⟩; exact congrArg (offB true) (by first | rfl | (exact congrArg Value.bool (decide_eq_true (by omega))) | (exact congrArg Value.bool (decide_eq_false (by omega))) | (simp; done) | (simp; omega) | (simp [*]; done) : _ = Value.bool false)) ⟨rfl, rfl⟩ rfl rfl,
            ⟨.u rfl rfl rfl (by rintro _ _ ⟨rfl, rfl⟩; exact congrArg (offB true) (by first | rfl | (exact congrArg Value.bool (decide_eq_true (by omega))) | (exact congrArg Value.bool (decide_eq_false (by omega))) | (simp; done) | (simp; omega) | (simp [*]; done) : _ = Value.bool false)) ⟨rfl, rfl⟩ rfl rfl,
            ⟨.u rfl rfl rfl (by rintro _ _ ⟨rfl, rfl⟩; rfl) ⟨rfl, rfl⟩ rfl rfl,
            ⟨.u rfl rfl rfl (by rintro _ _ ⟨rfl, rfl⟩; rfl) ⟨rfl, rfl⟩ rfl rfl,
            ⟨.u rfl rfl rfl (by rintro _ _ ⟨rfl, rfl⟩; rfl) ⟨rfl, rfl⟩ rfl rfl,
            ⟨.u rfl rfl rfl (by rintro _ _ ⟨rfl, rfl⟩; rfl) ⟨rfl, rfl⟩ rfl rfl,
            ⟨.u rfl rfl rfl (by rintro _ _ ⟨rfl, rfl⟩; rfl) ⟨rfl, rfl⟩ rfl rfl,
            ⟨.u rfl rfl rfl (by rintro _ _ ⟨rfl, rfl⟩; rfl) ⟨rfl, rfl⟩ rfl rfl,
            ⟨.u rfl rfl rfl (by rintro _ _ ⟨rfl, rfl⟩; rfl) ⟨rfl, rfl⟩ rfl rfl,
            ⟨.u rfl rfl rfl (by rintro _ _ ⟨rfl, rfl⟩; rfl) ⟨rfl, rfl⟩ rfl rfl,
            ⟨.u rfl rfl rfl (by rintro _ _ ⟨rfl, rfl⟩; rfl) ⟨rfl, rfl⟩ rfl rfl,
            ⟨.u rfl rfl rfl (by rintro _ _ ⟨rfl, rfl⟩; rfl) ⟨rfl, rfl⟩ rfl rfl,
            ⟨.u rfl rfl rfl (by rintro _ _ ⟨rfl, rfl⟩; rfl) ⟨rfl, rfl⟩ rfl rfl,
            ⟨.u rfl rfl rfl (by rintro _ _ ⟨rfl, rfl⟩; rfl) ⟨rfl, rfl⟩ rfl rfl,
            ⟨.u rfl rfl rfl (by rintro _ _ ⟨rfl, rfl⟩; rfl) ⟨rfl, rfl⟩ rfl rfl,
            ⟨.u rfl rfl rfl (by rintro _ _ ⟨rfl, rfl⟩; rfl) ⟨rfl, rfl⟩ rfl rfl,
            ⟨.u rfl rfl rfl (by rintro _ _ ⟨rfl, rfl⟩; rfl) ⟨rfl, rfl⟩ rfl rfl,
            ⟨.u rfl rfl rfl (by rintro _ _ ⟨rfl, rfl⟩; exact congrArg (offB true) (by first | rfl | (exact congrArg Value.bool (decide_eq_true (by omega))) | (exact congrArg Value.bool (decide_eq_false (by omega))) | (simp; done) | (simp; omega) | (simp [*]; done) : _ = Value.bool false)) ⟨rfl, rfl⟩ rfl rfl,
            ⟨.p rfl (by intro X; rintro _ _ ⟨rfl, rfl⟩ _ _ ⟨rfl, rfl⟩; exact op_pick_f (by first | rfl | (show some (Value.bool (decide _)) = _; rw [decide_eq_true (by omega)]) | (show some (Value.bool (decide _)) = _; rw [decide_eq_false (by omega)]) | (simp [ev, lk]; done) | (simp [ev, lk]; omega) | (simp [ev, lk, *]; done)) rfl),
            trivial⟩⟩⟩⟩⟩⟩⟩⟩⟩⟩⟩⟩⟩⟩⟩⟩⟩⟩⟩⟩⟩⟩⟩⟩⟩⟩⟩⟩)
            (fun β β' => ⟨fun _ => by rfl, ⟨fun _ => by rfl, ⟨fun _ => by rfl, ⟨fun _ => by rfl, ⟨fun _ => by rfl, ⟨fun _ => by rfl, ⟨fun _ => by rfl, ⟨fun _ => by rfl, ⟨fun _ => by rfl, ⟨fun _ => by rfl, ⟨fun _ => by rfl, ⟨fun _ => by rfl, ⟨fun _ => by rfl, ⟨fun _ => by rfl, ⟨fun _ => by rfl, ⟨fun _ => by rfl, ⟨fun _ => by rfl, ⟨fun _ => by rfl, ⟨fun _ => by rfl, ⟨fun _ => by rfl, ⟨fun _ => by rfl, ⟨fun _ => by rfl, ⟨fun _ => by rfl, ⟨fun _ => by rfl, ⟨fun _ => by rfl, ⟨fun _ => by rfl, ⟨fun _ => by rfl, ⟨fun _ => by rfl, trivial⟩⟩⟩⟩⟩⟩⟩⟩⟩⟩⟩⟩⟩⟩⟩⟩⟩⟩⟩⟩⟩⟩⟩⟩⟩⟩⟩⟩) ?_
        intro β
        rintro _ _ ⟨rfl, rfl⟩ _ _ ⟨rfl, rfl⟩ _ _ ⟨rfl, rfl⟩ _ _ ⟨rfl, rfl⟩ _ _ ⟨rfl, rfl⟩ _ _ ⟨rfl, rfl⟩ _ _ ⟨rfl, rfl⟩ _ _ ⟨rfl, rfl⟩ _ _ ⟨rfl, rfl⟩ _ _ ⟨rfl, rfl⟩ _ _ ⟨rfl, rfl⟩ _ _ ⟨rfl, rfl⟩ _ _ ⟨rfl, rfl⟩ _ _ ⟨rfl, rfl⟩ _ _ ⟨rfl, rfl⟩ _ _ ⟨rfl, rfl⟩ _ _ ⟨rfl, rfl⟩ _ _ ⟨rfl, rfl⟩ _ _ ⟨rfl, rfl⟩ _ _ ⟨rfl, rfl⟩ _ _ ⟨rfl, rfl⟩ _ _ ⟨rfl, rfl⟩ _ _ ⟨rfl, rfl⟩ _ _ ⟨rfl, rfl⟩ _ _ ⟨rfl, rfl⟩ _ _ ⟨rfl, rfl⟩ _ _ ⟨rfl, rfl⟩ _ _ ⟨rfl, rfl⟩
        refine wl_norm (e' := [(0, _), (1, _), (2, _), (3, _), (9, _), (10, _), (11, _), (12, _), (60, _)]) (.cons rfl (.cons rfl (.cons rfl (.cons rfl (.cons rfl (.cons rfl (.cons rfl (.cons rfl (.cons rfl (.nil _)))))))))) (by dsimp only [cond_false, cond_true, List.nil_append, List.cons_append]) ?_
        refine wl_nil ?_
        refine st_tn ?_
        exact cut_done1 [501, 502] hK rfl (by clear hV hH hch hbd hsn hVa hVb hHa hHb hba hda hdb; unfold updC; cases h1 : g.1 x.f <;> cases h2 : g.1 x.t <;> simp_all) (by rfl) rfl rfl
    · -- behind r6
      show W _ _ _ _ _ [(60, _), (0, _), (1, _), (2, _), (3, _), (9, _), (10, _), (11, _), (12, _)] [(501, _), (502, _)] _
      refine w_cond_d rfl (fun hc60 => ?_) (fun hc60 => ?_)
      · -- c60.t
        refine w_drawW (fun β => [⟨61, [], [], [], noW (_), false, [], []⟩, ⟨62, [], [], [], noW (_), false, [], []⟩, ⟨63, [], [], [], noW (_), false, [], []⟩, ⟨64, [], [], [], noW (_), false, [], []⟩, ⟨65, [], [], [], noW (_), false, [], []⟩, ⟨66, [], [], [], noW (_), false, [], []⟩, ⟨67, [4, 5], [], [], noW (_), false, [15], []⟩, ⟨68, [6], [], [], noW (_), false, [15], []⟩, ⟨69, [], [], [], noW (_), false, [], []⟩, ⟨70, [], [], [], noW (_), false, [], []⟩, ⟨71, [8, 9], [], [], noW (_), false, [], []⟩, ⟨72, [10], [], [], noW (_), false, [], []⟩, ⟨73, [11], [], [], noW (_), false, [], []⟩, ⟨74, [7, 12], [], [], noW (_), false, [], []⟩, ⟨75, [0, 1], [], [], noW (_), false, [15], []⟩, ⟨93, [14, 13], [], [(501, _)], noW (_), false, [], []⟩]) [501] [2, 12, 3, 11, 0, 10] [⟨61, [], [], false, [], []⟩, ⟨62, [], [], false, [], []⟩, ⟨63, [], [], false, [], []⟩, ⟨64, [], [], false, [], []⟩, ⟨65, [], [], false, [], []⟩, ⟨66, [], [], false, [], []⟩, ⟨67, [4, 5], [], false, [15], []⟩, ⟨68, [6], [], false, [15], []⟩, ⟨69, [], [], false, [], []⟩, ⟨70, [], [], false, [], []⟩, ⟨71, [8, 9], [], false, [], []⟩, ⟨72, [10], [], false, [], []⟩, ⟨73, [11], [], false, [], []⟩, ⟨74, [7, 12], [], false, [], []⟩, ⟨75, [0, 1], [], false, [15], []⟩, ⟨93, [14, 13], [], false, [], []⟩] [[], [], [], [], [], [], [], [], [], [], [], [], [], [], [], []] [[], [], [], [], [], [], [], [], [], [], [], [], [], [], [], [(501, _)]] tMixo (fun _ => by rfl) (fun _ => by rfl) (by kernel_rfl) (by kernel_rfl) (by rfl) (by rfl)
            (fun β => ⟨.p rfl (by intro X; exact op_move rfl),
            ⟨.p rfl (by intro X; exact op_move rfl),
            ⟨.p rfl (by intro X; exact op_move rfl),
            ⟨.p rfl (by intro X; exact op_move rfl),
            ⟨.p rfl (by intro X; exact op_move rfl),
            ⟨.p rfl (by intro X; exact op_move rfl),
            ⟨.p rfl (by intro X; rintro _ _ ⟨rfl, rfl⟩ _ _ ⟨rfl, rfl⟩; exact op_idx rfl rfl tS26o (Sl.ent (Sl.lab 501 rfl (by unfold maxLen; omega))) (by omega)),
            ⟨.p rfl (by intro X; rintro _ _ ⟨rfl, rfl⟩; exact op_ldx rfl tO3o (Sl.lab 501 rfl (by unfold maxLen; omega)) (by assumption) (by rfl)),
            ⟨.p rfl (by intro X; exact op_move rfl),
            ⟨.p rfl (by intro X; exact op_move rfl),
            ⟨.p rfl (by intro X; rintro _ _ ⟨rfl, rfl⟩ _ _ ⟨rfl, rfl⟩; exact op_idx rfl rfl tS24o (Sl.ent (by first | exact Sl.app (by assumption) _ | exact Sl.app (Sl.app (by assumption) _) _)) (by omega)),
            ⟨.p rfl (by intro X; rintro _ _ ⟨rfl, rfl⟩; exact op_fieldAddr (off := 2) rfl tF34_2o),
            ⟨.p rfl (by intro X; rintro _ _ ⟨rfl, rfl⟩; exact op_ldxf rfl tO3o (by first | exact Sl.app (by assumption) _ | exact Sl.app (Sl.app (by assumption) _) _) (by assumption) (by rfl)),
            ⟨.p rfl (by intro X; rintro _ _ ⟨rfl, rfl⟩ _ _ ⟨rfl, rfl⟩; exact op_add' rfl rfl (by omega)),
            ⟨.p rfl (by intro X; rintro _ _ ⟨rfl, rfl⟩ _ _ ⟨rfl, rfl⟩; exact op_idx rfl rfl tS26o (Sl.ent (Sl.lab 501 rfl (by unfold maxLen; omega))) (by omega)),
            ⟨.p rfl (by intro X; rintro _ _ ⟨rfl, rfl⟩ _ _ ⟨rfl, rfl⟩; exact op_storeX (lab := 501) (j := 0) rfl rfl tO3o rfl rfl (by rfl) (by first | assumption | (simp [*]; done)) (Nat.le_of_ble_eq_true rfl) (by rfl)) (hu := by exact .inr fun _ _ h => h.1),
            trivial⟩⟩⟩⟩⟩⟩⟩⟩⟩⟩⟩⟩⟩⟩⟩⟩)
            (fun β β' => ⟨fun _ => by rfl, ⟨fun _ => by rfl, ⟨fun _ => by rfl, ⟨fun _ => by rfl, ⟨fun _ => by rfl, ⟨fun _ => by rfl, ⟨fun _ => by rfl, ⟨fun _ => by rfl, ⟨fun _ => by rfl, ⟨fun _ => by rfl, ⟨fun _ => by rfl, ⟨fun _ => by rfl, ⟨fun _ => by rfl, ⟨fun _ => by rfl, ⟨fun _ => by rfl, ⟨fun _ => by rfl, trivial⟩⟩⟩⟩⟩⟩⟩⟩⟩⟩⟩⟩⟩⟩⟩⟩) ?_
        intro β
        rintro _ _ ⟨rfl, rfl⟩ _ _ ⟨rfl, rfl⟩ _ _ ⟨rfl, rfl⟩ _ _ ⟨rfl, rfl⟩ _ _ ⟨rfl, rfl⟩ _ _ ⟨rfl, rfl⟩ _ _ ⟨rfl, rfl⟩ _ _ ⟨rfl, rfl⟩ _ _ ⟨rfl, rfl⟩ _ _ ⟨rfl, rfl⟩ _ _ ⟨rfl, rfl⟩ _ _ ⟨rfl, rfl⟩ _ _ ⟨rfl, rfl⟩ _ _ ⟨rfl, rfl⟩ _ _ ⟨rfl, rfl⟩ _ _ ⟨rfl, rfl⟩
        refine wl_norm (e' := [(0, _), (1, _), (2, _), (3, _), (10, _), (63, _), (64, _)]) (.cons rfl (.cons rfl (.cons rfl (.cons rfl (.cons rfl (.cons rfl (.cons rfl (.nil _)))))))) (by dsimp only [cond_false, cond_true, List.nil_append, List.cons_append]) ?_
        refine wl_det rfl rfl rfl (op_idx rfl rfl tS84o (Sl.ent (Sl.lab 502 rfl (by unfold maxLen; omega))) (by omega)) ?_
        refine wl_op0 [502] rfl rfl rfl (op_storeX (lab := 502) (j := 0) rfl rfl tO4o rfl rfl (by rfl) (by first | assumption | (simp [*]; done)) (Nat.le_of_ble_eq_true rfl) (by rfl)) ?_
        rintro _ _ ⟨rfl, rfl⟩
        refine wl_det rfl rfl rfl (op_assign rfl) ?_
        refine wl_nil ?_
        refine st_bn ?_
        refine st_tn ?_
        refine w_region ?_
        refine wl_det rfl rfl rfl (op_move rfl) ?_
        refine wl_det rfl rfl rfl (op_add' rfl rfl (by omega)) ?_
        refine wl_det rfl rfl rfl (op_assign rfl) ?_
        refine wl_nil ?_
        refine st_roundQ (x := (ch, i, V, H)) ((_, i + 1, _, _)) [501, 502] rfl (rfl) (.cons rfl (.cons rfl (.nil _))) (.cons rfl (.cons rfl (.cons rfl (.cons rfl (.nil _))))) (by
            try dsimp only
            rw [hsn]; unfold stepF; rw [if_pos hc60]; exact ⟨by omega, by rw [hV]; exact (map_setF hn hnb (fun o => o.getD 0)).symm, by rw [hH]; exact (map_setF hn hnb (fun o => o.isSome)).symm, rfl⟩) (by
            try dsimp only
            omega) 
      · -- c60.f
        refine w_skip ?_
        refine st_bn ?_
        refine st_tn ?_
        refine w_region ?_
        refine wl_det rfl rfl rfl (op_move rfl) ?_
        refine wl_det rfl rfl rfl (op_add' rfl rfl (by omega)) ?_
        refine wl_det rfl rfl rfl (op_assign rfl) ?_
        refine wl_nil ?_
        refine st_roundQ (x := (ch, i, V, H)) ((_, i + 1, _, _)) [501, 502] rfl (rfl) (.cons rfl (.cons rfl (.nil _))) (.cons rfl (.cons rfl (.cons rfl (.cons rfl (.nil _))))) (by
            try dsimp only
            rw [hsn]; unfold stepF; rw [if_neg hc60]; exact ⟨by omega, hV, hH, hch⟩) (by
            try dsimp only
            omega) 
  · -- c16.f
    refine w_exit ?_
    refine st_te ?_
    refine st_te ?_
    refine st_be ?_
    refine st_tn ?_
    refine w_seq ?_
    rw [List.take_of_length_le (by omega)] at hV hH hch
    refine w_region ?_
    refine wl_det rfl rfl rfl (op_move rfl) ?_
    refine wl_det rfl rfl rfl (op_assign rfl) ?_
    refine wl_nil ?_
    refine st_tn ?_
    refine w_ret ?_
    refine st_ret (vs := [_]) [501, 502] Try.results52 ⟨rfl, trivial⟩ rfl ?_
    refine ⟨[(501, _), (502, _)], rfl, ?_⟩
    rw [hV, hH, hch]; exact ⟨rfl, rfl⟩

end Go.Proofs.Ytgdjnjbipemdcaa
