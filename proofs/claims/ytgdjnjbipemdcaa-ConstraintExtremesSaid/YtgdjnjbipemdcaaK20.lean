/- The law Monotone (layer 9). Conditions: none. -/
import Derived.Test.YtgdjnjbipemdcaaK19
namespace Go.Proofs.Ytgdjnjbipemdcaa
open Go Go.SL Go.RowKit Go.ConM
set_option linter.unusedVariables false
set_option linter.unusedSimpArgs false
theorem tA43t : aggB Try.prog 43 3 = true := by kernel_rfl
theorem tF49_0t : fieldB Try.prog 49 0 0 = true := by kernel_rfl
theorem tF49_1t : fieldB Try.prog 49 1 1 = true := by kernel_rfl
theorem tL22_1t : zerosB Try.prog 22 43 3 1 = some [Value.int .u8 0, Value.int .u8 0, Value.int .i8 0] := by kernel_rfl
theorem tMixt : Try.prog.follows .mixedOrders = true := by kernel_rfl
theorem tO3t : oneB Try.prog 3 = true := by kernel_rfl
theorem tO5t : oneB Try.prog 5 = true := by kernel_rfl
theorem tP22t : appB Try.prog 22 43 3 3 = true := by kernel_rfl
theorem tR44t : arrB Try.prog 44 3 1 = true := by kernel_rfl
theorem tS22t : sliceB Try.prog 22 43 3 = true := by kernel_rfl
theorem tS45t : sliceB Try.prog 45 49 2 = true := by kernel_rfl

/-- A stable labelling bounds each search that begins above it. -/
theorem relF_le {g : Lbl} {m : Int} : ∀ {l L : List Con} {p : Lbl × Bool}, StF L g → (∀ c ∈ l, c ∈ L) → (∀ x v, p.1 x = some v → ∃ w, g x = some w ∧ w ≤ v + m) → ∀ x v, (relF l p).1 x = some v → ∃ w, g x = some w ∧ w ≤ v + m
  | [], L, p, _, _, h => h
  | c :: l, L, p, hg, hs, h => by
    refine relF_le (l := l) (p := stepF c p) hg (fun d hd => hs d (List.mem_cons_of_mem _ hd)) fun x v hx => ?_
    unfold stepF at hx
    split at hx
    · rename_i hu
      dsimp only [setF] at hx
      split at hx
      · rename_i e
        subst e
        unfold updC at hu
        cases ha : p.1 c.f with
        | none => rw [ha] at hu; simp at hu
        | some a =>
          rw [ha] at hx
          obtain ⟨w, h1, h2⟩ := h _ _ ha
          have h3 := hg c (hs c (by simp))
          unfold updC at h3
          rw [h1] at h3
          cases hb : g c.t with
          | none => rw [hb] at h3; simp at h3
          | some b =>
            rw [hb] at h3
            simp at h3 hx
            exact ⟨b, rfl, by omega⟩
      · exact h x v hx
    · exact h x v hx
theorem rf_le {g f : Lbl} {m : Int} {l L : List Con} (hg : StF L g) (hs : ∀ c ∈ l, c ∈ L) (h : ∀ x v, f x = some v → ∃ w, g x = some w ∧ w ≤ v + m) : ∀ k x v, RF l f k x = some v → ∃ w, g x = some w ∧ w ≤ v + m
  | 0 => h
  | k + 1 => relF_le (p := (RF l f k, false)) hg hs (rf_le hg hs h k)
theorem zero_le {g : Lbl} {a : Int} {m : Int} (h : ∃ w, g a = some w ∧ w ≤ m) : ∀ x v, zeroF [a] x = some v → ∃ w, g x = some w ∧ w ≤ v + m := fun x v hx => by
  unfold zeroF at hx
  split at hx
  · rename_i h1; rw [List.mem_singleton] at h1; subst h1
    simp at hx; subst hx
    obtain ⟨w, h2, h3⟩ := h; exact ⟨w, h2, by omega⟩
  · simp at hx
theorem dist_ok {l : List Con} {a b d : Int} : distR l a b = (d, 0) ↔ a ∈ nodes l ∧ b ∈ nodes l ∧ Feas (ownL l a) ∧ disF l a b = some d := by
  unfold distR
  by_cases h1 : a ∈ nodes l ∧ b ∈ nodes l
  · rw [if_pos h1]
    by_cases h2 : Feas (ownL l a)
    · rw [if_pos h2]
      cases h3 : disF l a b with
      | none => simp
      | some n => simp [h1, h2]
    · rw [if_neg h2]; simp [h2]
  · rw [if_neg h1]; simp; intro h2 h3; exact absurd ⟨h2, h3⟩ h1
theorem comp_in {l : List Con} {a b : Int} (h : (disF l a b).isSome = true) : b ∈ compX l a := by
  refine (rf_own (l := l) (a := a) (nodes l).length).2 b ?_
  rw [(rf_own (l := l) (a := a) _).1]; exact h
theorem comp_eq {l : List Con} {a b : Int} (h : b ∈ compX l a) (x : Int) : x ∈ compX l b ↔ x ∈ compX l a := by
  constructor
  · exact fun hx => compX_least (P := (· ∈ compX l a)) (compX_closed l a) h x hx
  · intro hx
    have ha : a ∈ compX l b := by
      refine Classical.byContradiction fun hn => ?_
      exact compX_least (P := (· ∉ compX l b)) (fun c hc => not_congr (compX_closed l b c hc)) hn b h (compX_self l b)
    exact compX_least (P := (· ∈ compX l b)) (compX_closed l b) ha x hx
theorem own_eq {l : List Con} {a b : Int} (h : b ∈ compX l a) : ownL l b = ownL l a := by
  unfold ownL; exact List.filter_congr fun c _ => by rw [decide_eq_decide]; exact comp_eq h c.f
theorem triangle {l : List Con} {a b c d e : Int} (h1 : distR l a b = (d, 0)) (h2 : distR l b c = (e, 0)) : ∃ h, distR l a c = (h, 0) ∧ h ≤ d + e := by
  obtain ⟨ha, hb, hf, hd⟩ := dist_ok.1 h1
  obtain ⟨_, hc, _, he⟩ := dist_ok.1 h2
  have hbc : b ∈ compX l a := comp_in (by rw [hd]; rfl)
  obtain ⟨w, h3, h4⟩ := rf_le (m := d) (disF_st hf) (l := ownL l b) (fun c hc => by rw [← own_eq hbc]; exact hc) (zero_le (a := b) ⟨d, hd, Int.le_refl _⟩) _ c e he
  exact ⟨w, dist_ok.2 ⟨ha, hc, hf, h3⟩, by omega⟩
theorem nodes_more {l m : List Con} {x : Int} (h : x ∈ nodes l) : x ∈ nodes (l ++ m) := by
  obtain ⟨c, hc, h⟩ := mem_nodes.1 h; exact mem_nodes.2 ⟨c, List.mem_append_left _ hc, h⟩
theorem own_more {l m : List Con} {a : Int} : ∀ c ∈ ownL l a, c ∈ ownL (l ++ m) a := fun c hc => by
  obtain ⟨h1, h2⟩ := mem_own.1 hc
  exact mem_own.2 ⟨List.mem_append_left _ h1, compX_least (P := (· ∈ compX (l ++ m) a)) (fun d hd => compX_closed (l ++ m) a d (List.mem_append_left _ hd)) (compX_self _ _) _ h2⟩
theorem dist_more {l m : List Con} {a b d : Int} (h : distR l a b = (d, 0)) : (distR (l ++ m) a b).2 = 21 ∨ ∃ n, distR (l ++ m) a b = (n, 0) ∧ n ≤ d := by
  obtain ⟨ha, hb, hf, hd⟩ := dist_ok.1 h
  by_cases hF : Feas (ownL (l ++ m) a)
  · obtain ⟨w0, h5, h6⟩ := rf_dec (l := ownL (l ++ m) a) (f := zeroF [a]) (x := a) (v := 0) (by unfold zeroF; rw [if_pos (by simp)]) (nodes (l ++ m)).length
    obtain ⟨w, h3, h4⟩ := rf_le (m := 0) (disF_st hF) (l := ownL l a) own_more (zero_le (a := a) ⟨w0, h5, h6⟩) _ b d hd
    exact .inr ⟨w, dist_ok.2 ⟨nodes_more ha, nodes_more hb, hF, h3⟩, by omega⟩
  · left; unfold distR; rw [if_pos ⟨nodes_more ha, nodes_more hb⟩, if_neg hF]
theorem pot_own {l : List Con} {a : Int} (h : Feas l) : Pot (ownL l a) fun x => (potF l x).getD 0 := fun c hc => pot_feas h c (mem_own.1 hc).1
theorem dist_pot {l : List Con} {a b d : Int} (h : distR l a b = (d, 0)) (hF : Feas l) : (potF l b).getD 0 - (potF l a).getD 0 ≤ d := dis_ge (pot_own hF) (dist_ok.1 h).2.2.2
theorem dist_bd {l : List Con} (a b : Int) (hl : Small l) : -1099511627776 ≤ (distR l a b).1 ∧ (distR l a b).1 ≤ 1099511627776 := by
  have hb := bdF_RF (bd_zero [a]) (own_small (a := a) hl) (nodes l).length
  have hn := len_nodes l
  have hl2 := hl.2
  unfold distR
  split
  · split
    · split
      · rename_i n hn'; have := hb b n hn'; dsimp only; omega
      · simp
    · simp
  · simp
theorem sysL_more {s : List Arc} {m : Arc} (h : s.length ≤ 11) : sysL ([] ++ s ++ [m]) = sysL s ++ [conOf m] := by
  unfold sysL
  rw [List.nil_append, List.take_of_length_le (by simp; omega), List.take_of_length_le (by omega), List.map_append]; rfl
theorem upd_eq {ns : List Int} {A k : Int} {i : Nat} {v : Int → Int} (hk : ns[i]? = some k) : (if A ∈ ns.take (i + 1) then v A else 0) = if k = A then v k else (if A ∈ ns.take i then v A else 0) := by
  rw [take_snoc hk]
  by_cases h : k = A
  · subst h; simp
  · have : A ∈ ns.take i ++ [k] ↔ A ∈ ns.take i := by rw [List.mem_append, List.mem_singleton]; exact ⟨fun h' => h'.resolve_right fun e => h e.symm, .inl⟩
    rw [if_neg h]; simp only [this]
theorem tri_or (l : List Con) (a b c : Int) : ¬ (distR l a b).2 = 0 ∨ ¬ (distR l b c).2 = 0 ∨ ((distR l a c).2 = 0 ∧ (distR l a c).1 ≤ (distR l a b).1 + (distR l b c).1) := by
  by_cases h1 : (distR l a b).2 = 0
  · by_cases h2 : (distR l b c).2 = 0
    · obtain ⟨h, h3, h4⟩ := triangle (l := l) (a := a) (b := b) (c := c) (d := (distR l a b).1) (e := (distR l b c).1) (Prod.ext rfl h1) (Prod.ext rfl h2)
      right; right; rw [h3]; exact ⟨rfl, h4⟩
    · exact .inr (.inl h2)
  · exact .inl h1
theorem more_or (l m : List Con) (a b : Int) : ¬ (distR l a b).2 = 0 ∨ (distR (l ++ m) a b).2 = 21 ∨ ((distR (l ++ m) a b).2 = 0 ∧ (distR (l ++ m) a b).1 ≤ (distR l a b).1) := by
  by_cases h1 : (distR l a b).2 = 0
  · rcases dist_more (m := m) (l := l) (a := a) (b := b) (d := (distR l a b).1) (Prod.ext rfl h1) with h | ⟨n, h, h2⟩
    · exact .inr (.inl h)
    · right; right; rw [h]; exact ⟨rfl, h2⟩
  · exact .inl h1
set_option maxHeartbeats 400000 in
set_option maxRecDepth 100000 in
theorem lawMonotone_any {σ : World} {F : List Res} {a : Option Addr} {c : Nat} {s : List Arc} (mf mt mb y0 y1 y2 : Int) (h : Sl σ F encA 3 (.slice a s.length c) s) (hs : OkA s) (hmf : 0 ≤ mf ∧ mf ≤ 255) (hmt : 0 ≤ mt ∧ mt ≤ 255) (hmb : -128 ≤ mb ∧ mb ≤ 127) (hy0 : 0 ≤ y0 ∧ y0 ≤ 255) (hy1 : 0 ≤ y1 ∧ y1 ≤ 255) (hy2 : 0 ≤ y2 ∧ y2 ≤ 255) :
    FnT Try.prog σ F 5 [.slice a s.length c, .agg #[.int .u8 mf, .int .u8 mt, .int .i8 mb], .agg #[.int .u8 y0, .int .u8 y1, .int .u8 y2]] [] (fun u ρ => u = .bool true ∧ ρ = []) := by
  refine fn_of 165 Try.func5 rfl Try.ntmps5 rfl ?_
  have hle := h.i64
  obtain ⟨hfew, hsm, hin, hno, hbn⟩ := sys_ok hs
  have hOk2 : OkA ([] ++ s ++ [(⟨mf, mt, mb⟩ : Arc)]) := by intro d hd; rcases List.mem_append.1 hd with hd | hd; (· exact hs d (by simpa using hd)); (· rw [List.mem_singleton] at hd; subst hd; exact ⟨hmf, hmt, hmb⟩)
  obtain ⟨hfew2, hsm2, hin2, _, _⟩ := sys_ok hOk2
  refine w_seq ?_
  refine w_region ?_
  refine wl_op [] rfl rfl rfl rfl (op_box (T := 43) (l := 4) rfl) ?_
  rintro _ _ ⟨b4, rfl, rfl⟩
  refine wl_op [] rfl rfl rfl rfl (op_box (T := 44) (l := 5) rfl) ?_
  rintro _ _ ⟨b5, rfl, rfl⟩
  refine wl_det rfl rfl rfl (op_assign rfl) ?_
  refine wl_nil ?_
  refine st_tn ?_
  refine w_seq ?_
  refine w_seq ?_
  refine w_region ?_
  refine wl_det rfl rfl rfl (op_fn Try.func15 rfl rfl rfl (known_any)) ?_
  refine wl_det rfl rfl rfl (op_not_t rfl) ?_
  refine wl_det rfl rfl rfl (op_move rfl) ?_
  refine wl_wanted_det rfl rfl rfl rfl rfl rfl rfl (op_move rfl) ?_
  refine wl_wanted_det rfl rfl rfl rfl rfl rfl rfl (op_lenT rfl tS22t (Sl.ent (by first | exact Sl.app (by assumption) _ | exact Sl.app (Sl.app (by assumption) _) _))) ?_
  refine wl_wanted_det rfl rfl rfl rfl rfl rfl rfl (op_gtr rfl rfl) ?_
  refine wl_det rfl rfl rfl (op_pick_f rfl rfl) ?_
  refine wl_nil ?_
  refine st_tn ?_
  refine w_cond_d rfl (fun hc30 => ?_) (fun hc30 => ?_)
  · -- c30.t
    refine w_seq ?_
    refine w_region ?_
    refine wl_det rfl rfl rfl (op_fn Try.func15 rfl rfl rfl (known_any)) ?_
    refine wl_det rfl rfl rfl (op_assign rfl) ?_
    refine wl_nil ?_
    refine st_tn ?_
    refine w_ret ?_
    refine st_tr ?_
    refine st_ret (vs := [_]) [] Try.results5 ⟨rfl, trivial⟩ rfl ?_
    refine ⟨_, rfl, ?_⟩
    exact ⟨rfl, rfl⟩
  · -- c30.f
    refine w_skip ?_
    refine st_tn ?_
    refine w_seq ?_
    refine w_drawW (fun β => [⟨32, [], [], [], noW (_), false, [], []⟩, ⟨33, [0], [], [], fun w => DetW _ _, false, [], []⟩, ⟨34, [], [], [], noW (_), false, [], []⟩, ⟨35, [2], [], [], noW (_), false, [], []⟩, ⟨36, [3], [], [], noW (_), false, [], []⟩, ⟨37, [4], [], [], noW (_), false, [], []⟩, ⟨38, [5], [], [], noW (_), false, [], []⟩, ⟨39, [], [], [], noW (_), false, [], []⟩, ⟨40, [7], [], [], noW (_), false, [], []⟩, ⟨41, [8], [], [], noW (_), false, [], []⟩, ⟨42, [9], [], [], noW (_), false, [], []⟩, ⟨43, [10], [], [], noW (_), false, [], []⟩, ⟨44, [], [], [], noW (_), false, [], []⟩, ⟨45, [12], [], [], noW (_), false, [], []⟩, ⟨46, [13], [], [], noW (_), false, [], []⟩, ⟨47, [14], [], [], noW (_), false, [], []⟩, ⟨48, [15], [], [], noW (_), false, [], []⟩, ⟨7, [1], [], [], noW (_), false, [], []⟩, ⟨8, [6], [], [], noW (_), false, [], []⟩, ⟨9, [11], [], [], noW (_), false, [], []⟩]) [] [0, 5] [⟨32, [], [], false, [], []⟩, ⟨33, [0], [], false, [], []⟩, ⟨34, [], [], false, [], []⟩, ⟨35, [2], [], false, [], []⟩, ⟨36, [3], [], false, [], []⟩, ⟨37, [4], [], false, [], []⟩, ⟨38, [5], [], false, [], []⟩, ⟨39, [], [], false, [], []⟩, ⟨40, [7], [], false, [], []⟩, ⟨41, [8], [], false, [], []⟩, ⟨42, [9], [], false, [], []⟩, ⟨43, [10], [], false, [], []⟩, ⟨44, [], [], false, [], []⟩, ⟨45, [12], [], false, [], []⟩, ⟨46, [13], [], false, [], []⟩, ⟨47, [14], [], false, [], []⟩, ⟨48, [15], [], false, [], []⟩, ⟨7, [1], [], false, [], []⟩, ⟨8, [6], [], false, [], []⟩, ⟨9, [11], [], false, [], []⟩] [[], [], [], [], [], [], [], [], [], [], [], [], [], [], [], [], [], [1], [], []] [[], [], [], [], [], [], [], [], [], [], [], [], [], [], [], [], [], [], [], []] tMixt (fun _ => by rfl) (fun _ => by rfl) (by kernel_rfl) (by kernel_rfl) (by rfl) (by rfl)
        (fun β => ⟨.p rfl (by intro X; exact op_move rfl),
        ⟨.px rfl (by intro X; rintro _ _ ⟨rfl, rfl⟩; refine OpT.mono (op_fn Try.func16 rfl rfl rfl (sys_any 33 (by first | exact Sl.app (by assumption) _ | exact Sl.app (Sl.app (by assumption) _) _) (by assumption))) ?_; rintro _ _ ⟨a33, c33, rfl, rfl⟩; obtain ⟨w, rfl, rfl⟩ : ∃ w : Wt, w.a = a33 ∧ w.c = c33 := ⟨{ a := a33, c := c33 }, rfl, rfl⟩; exact ⟨w, rfl, rfl⟩),
        ⟨.p rfl (by intro X; exact op_idxArr (i := 0) rfl rfl tR44t (Nat.le_of_ble_eq_true rfl)),
        ⟨.p rfl (by intro X; rintro _ _ ⟨rfl, rfl⟩; exact op_load1 rfl tO5t (Ent.lab (l := 5) rfl (says_cel 0))),
        ⟨.p rfl (by intro X; rintro _ _ ⟨rfl, rfl⟩; exact op_remN rfl rfl (by omega) (by omega)),
        ⟨.p rfl (by intro X; rintro _ _ ⟨rfl, rfl⟩; exact op_convI64 rfl (by rw [Try.underlying5]; rfl) Try.underlying3 (by omega)),
        ⟨.p rfl (by intro X; rintro _ _ ⟨rfl, rfl⟩; exact op_sub' rfl rfl (by omega)),
        ⟨.p rfl (by intro X; exact op_idxArr (i := 1) rfl rfl tR44t (Nat.le_of_ble_eq_true rfl)),
        ⟨.p rfl (by intro X; rintro _ _ ⟨rfl, rfl⟩; exact op_load1 rfl tO5t (Ent.lab (l := 5) rfl (says_cel 1))),
        ⟨.p rfl (by intro X; rintro _ _ ⟨rfl, rfl⟩; exact op_remN rfl rfl (by omega) (by omega)),
        ⟨.p rfl (by intro X; rintro _ _ ⟨rfl, rfl⟩; exact op_convI64 rfl (by rw [Try.underlying5]; rfl) Try.underlying3 (by omega)),
        ⟨.p rfl (by intro X; rintro _ _ ⟨rfl, rfl⟩; exact op_sub' rfl rfl (by omega)),
        ⟨.p rfl (by intro X; exact op_idxArr (i := 2) rfl rfl tR44t (Nat.le_of_ble_eq_true rfl)),
        ⟨.p rfl (by intro X; rintro _ _ ⟨rfl, rfl⟩; exact op_load1 rfl tO5t (Ent.lab (l := 5) rfl (says_cel 2))),
        ⟨.p rfl (by intro X; rintro _ _ ⟨rfl, rfl⟩; exact op_remN rfl rfl (by omega) (by omega)),
        ⟨.p rfl (by intro X; rintro _ _ ⟨rfl, rfl⟩; exact op_convI64 rfl (by rw [Try.underlying5]; rfl) Try.underlying3 (by omega)),
        ⟨.p rfl (by intro X; rintro _ _ ⟨rfl, rfl⟩; exact op_sub' rfl rfl (by omega)),
        ⟨.p rfl (by intro X; rintro _ _ ⟨rfl, rfl⟩; exact op_assign rfl),
        ⟨.p rfl (by intro X; rintro _ _ ⟨rfl, rfl⟩; exact op_assign rfl),
        ⟨.p rfl (by intro X; rintro _ _ ⟨rfl, rfl⟩; exact op_assign rfl),
        trivial⟩⟩⟩⟩⟩⟩⟩⟩⟩⟩⟩⟩⟩⟩⟩⟩⟩⟩⟩⟩)
        (fun β β' => ⟨fun _ => by rfl, ⟨fun _ => by rfl, ⟨fun _ => by rfl, ⟨fun _ => by rfl, ⟨fun _ => by rfl, ⟨fun _ => by rfl, ⟨fun _ => by rfl, ⟨fun _ => by rfl, ⟨fun _ => by rfl, ⟨fun _ => by rfl, ⟨fun _ => by rfl, ⟨fun _ => by rfl, ⟨fun _ => by rfl, ⟨fun _ => by rfl, ⟨fun _ => by rfl, ⟨fun _ => by rfl, ⟨fun _ => by rfl, ⟨fun h => by first | rfl | (simp only [h 1 (by decide)]), ⟨fun _ => by rfl, ⟨fun _ => by rfl, trivial⟩⟩⟩⟩⟩⟩⟩⟩⟩⟩⟩⟩⟩⟩⟩⟩⟩⟩⟩⟩) ?_
    intro β
    rintro _ _ ⟨rfl, rfl⟩ _ _ ⟨rfl, rfl⟩ _ _ ⟨rfl, rfl⟩ _ _ ⟨rfl, rfl⟩ _ _ ⟨rfl, rfl⟩ _ _ ⟨rfl, rfl⟩ _ _ ⟨rfl, rfl⟩ _ _ ⟨rfl, rfl⟩ _ _ ⟨rfl, rfl⟩ _ _ ⟨rfl, rfl⟩ _ _ ⟨rfl, rfl⟩ _ _ ⟨rfl, rfl⟩ _ _ ⟨rfl, rfl⟩ _ _ ⟨rfl, rfl⟩ _ _ ⟨rfl, rfl⟩ _ _ ⟨rfl, rfl⟩ _ _ ⟨rfl, rfl⟩ _ _ ⟨rfl, rfl⟩ _ _ ⟨rfl, rfl⟩ _ _ ⟨rfl, rfl⟩
    generalize (β 1).a = a33
    generalize (β 1).c = c33
    refine wl_norm (e' := [(0, _), (4, _), (7, _), (8, _), (9, _), (48, _)]) (.cons rfl (.cons rfl (.cons rfl (.cons rfl (.cons rfl (.cons rfl (.nil _))))))) (by dsimp only [cond_false, cond_true, List.nil_append, List.cons_append]) ?_
    refine wl_det rfl rfl rfl (op_assign rfl) ?_
    refine wl_nil ?_
    refine st_tn ?_
    refine w_seq ?_
    refine w_region ?_
    refine wl_det rfl rfl rfl (op_move rfl) ?_
    refine wl_det rfl rfl rfl (op_move rfl) ?_
    refine wl_det rfl rfl rfl (op_move rfl) ?_
    refine wl_det rfl rfl rfl (op_val (v' := .tuple #[.int .i64 (distR (sysL s) (y0 % 6 - 1) (y1 % 6 - 1)).1, .int .i64 (distR (sysL s) (y0 % 6 - 1) (y1 % 6 - 1)).2]) (by rw [dist_eq]) (op_fn Try.func22 rfl rfl rfl (dist_any _ _ (Sl.lab 33 rfl (by unfold maxLen; omega)) (by assumption) (by assumption)))) ?_
    refine wl_det rfl rfl rfl (op_move rfl) ?_
    refine wl_det rfl rfl rfl (op_extract rfl rfl) ?_
    refine wl_det rfl rfl rfl (op_extract rfl rfl) ?_
    refine wl_det rfl rfl rfl (op_assign rfl) ?_
    refine wl_det rfl rfl rfl (op_assign rfl) ?_
    refine wl_nil ?_
    refine st_tn ?_
    refine w_seq ?_
    refine w_region ?_
    refine wl_det rfl rfl rfl (op_move rfl) ?_
    refine wl_det rfl rfl rfl (op_move rfl) ?_
    refine wl_det rfl rfl rfl (op_move rfl) ?_
    refine wl_det rfl rfl rfl (op_val (v' := .tuple #[.int .i64 (distR (sysL s) (y1 % 6 - 1) (y2 % 6 - 1)).1, .int .i64 (distR (sysL s) (y1 % 6 - 1) (y2 % 6 - 1)).2]) (by rw [dist_eq]) (op_fn Try.func22 rfl rfl rfl (dist_any _ _ (Sl.lab 33 rfl (by unfold maxLen; omega)) (by assumption) (by assumption)))) ?_
    refine wl_det rfl rfl rfl (op_move rfl) ?_
    refine wl_det rfl rfl rfl (op_extract rfl rfl) ?_
    refine wl_det rfl rfl rfl (op_extract rfl rfl) ?_
    refine wl_det rfl rfl rfl (op_assign rfl) ?_
    refine wl_det rfl rfl rfl (op_assign rfl) ?_
    refine wl_nil ?_
    refine st_tn ?_
    refine w_seq ?_
    refine w_region ?_
    refine wl_det rfl rfl rfl (op_move rfl) ?_
    refine wl_det rfl rfl rfl (op_move rfl) ?_
    refine wl_det rfl rfl rfl (op_move rfl) ?_
    refine wl_det rfl rfl rfl (op_val (v' := .tuple #[.int .i64 (distR (sysL s) (y0 % 6 - 1) (y2 % 6 - 1)).1, .int .i64 (distR (sysL s) (y0 % 6 - 1) (y2 % 6 - 1)).2]) (by rw [dist_eq]) (op_fn Try.func22 rfl rfl rfl (dist_any _ _ (Sl.lab 33 rfl (by unfold maxLen; omega)) (by assumption) (by assumption)))) ?_
    refine wl_det rfl rfl rfl (op_move rfl) ?_
    refine wl_det rfl rfl rfl (op_extract rfl rfl) ?_
    refine wl_det rfl rfl rfl (op_extract rfl rfl) ?_
    refine wl_det rfl rfl rfl (op_assign rfl) ?_
    refine wl_det rfl rfl rfl (op_assign rfl) ?_
    refine wl_nil ?_
    refine st_tn ?_
    refine w_seq ?_
    refine w_seq ?_
    have hb1 := dist_bd (l := sysL s) (y0 % 6 - 1) (y1 % 6 - 1) hsm
    have hb2 := dist_bd (l := sysL s) (y1 % 6 - 1) (y2 % 6 - 1) hsm
    have hb3 := dist_bd (l := sysL s) (y0 % 6 - 1) (y2 % 6 - 1) hsm
    have htri := tri_or (sysL s) (y0 % 6 - 1) (y1 % 6 - 1) (y2 % 6 - 1)
    refine w_cutL [(86, .bool (decide ((y0 < 0))))] [0, 4, 7, 8, 9, 11, 12] [4, 5, 33] rfl (fun K' hK => ?_) ?_
    · -- cut r7
      refine w_region ?_
      refine wl_det rfl rfl rfl (op_move rfl) ?_
      refine wl_det rfl rfl rfl (op_eql rfl rfl) ?_
      refine wl_det rfl rfl rfl (op_move rfl) ?_
      refine wl_gsplit (t := 72) rfl (fun hg72 => ?_) (fun hg72 => ?_)
      · -- 72 is True
        refine wl_wanted_det rfl rfl rfl rfl rfl rfl rfl (op_move rfl) ?_
        refine wl_wanted_det rfl rfl rfl rfl rfl rfl rfl (op_eql rfl rfl) ?_
        refine wl_det rfl rfl rfl (op_pick_t rfl rfl) ?_
        refine wl_det rfl rfl rfl (op_move rfl) ?_
        refine wl_gsplit (t := 76) rfl (fun hg76 => ?_) (fun hg76 => ?_)
        · -- 76 is True
          refine wl_wanted_det rfl rfl rfl rfl rfl rfl rfl (op_move rfl) ?_
          refine wl_wanted_det rfl rfl rfl rfl rfl rfl rfl (op_neq rfl rfl) ?_
          refine wl_wanted_det rfl rfl rfl rfl rfl rfl rfl (op_move rfl) ?_
          refine wl_gsplit (t := 79) rfl (fun hg79 => ?_) (fun hg79 => ?_)
          · -- 79 is True
            refine wl_unwanted rfl rfl rfl rfl rfl rfl rfl rfl ?_
            refine wl_unwanted rfl rfl rfl rfl rfl rfl rfl rfl ?_
            refine wl_unwanted rfl rfl rfl rfl rfl rfl rfl rfl ?_
            refine wl_unwanted rfl rfl rfl rfl rfl rfl rfl rfl ?_
            refine wl_unwanted rfl rfl rfl rfl rfl rfl rfl rfl ?_
            refine wl_wanted_det rfl rfl rfl rfl rfl rfl rfl (op_pick_t rfl rfl) ?_
            refine wl_det rfl rfl rfl (op_pick_t rfl rfl) ?_
            refine wl_nil ?_
            refine st_tn ?_
            exact cut_done1 [4, 5, 33] hK rfl (by first | (exfalso; omega) | (symm; rw [decide_eq_false_iff_not]; omega) | (rw [decide_eq_decide]; omega)) (by rfl) rfl rfl
          · -- 79 is False
            refine wl_wanted_det rfl rfl rfl rfl rfl rfl rfl (op_move rfl) ?_
            refine wl_wanted_det rfl rfl rfl rfl rfl rfl rfl (op_move rfl) ?_
            refine wl_wanted_det rfl rfl rfl rfl rfl rfl rfl (op_move rfl) ?_
            refine wl_wanted_det rfl rfl rfl rfl rfl rfl rfl (op_add' rfl rfl (by omega)) ?_
            refine wl_wanted_det rfl rfl rfl rfl rfl rfl rfl (op_gtr rfl rfl) ?_
            refine wl_wanted_det rfl rfl rfl rfl rfl rfl rfl (op_pick_f rfl rfl) ?_
            refine wl_det rfl rfl rfl (op_pick_t rfl rfl) ?_
            refine wl_nil ?_
            refine st_tn ?_
            exact cut_done1 [4, 5, 33] hK rfl (by first | (exfalso; omega) | (symm; rw [decide_eq_false_iff_not]; omega) | (rw [decide_eq_decide]; omega)) (by rfl) rfl rfl
        · -- 76 is False
          refine wl_unwanted rfl rfl rfl rfl rfl rfl rfl rfl ?_
          refine wl_unwanted rfl rfl rfl rfl rfl rfl rfl rfl ?_
          refine wl_unwanted rfl rfl rfl rfl rfl rfl rfl rfl ?_
          refine wl_unwantedU rfl rfl rfl rfl rfl rfl rfl ?_
          refine wl_unwantedU rfl rfl rfl rfl rfl rfl rfl ?_
          refine wl_unwantedU rfl rfl rfl rfl rfl rfl rfl ?_
          refine wl_unwantedU rfl rfl rfl rfl rfl rfl rfl ?_
          refine wl_unwantedU rfl rfl rfl rfl rfl rfl rfl ?_
          refine wl_unwanted rfl rfl rfl rfl rfl rfl rfl rfl ?_
          refine wl_det rfl rfl rfl (op_pick_f rfl rfl) ?_
          refine wl_nil ?_
          refine st_tn ?_
          exact cut_done1 [4, 5, 33] hK rfl (by first | (exfalso; omega) | (symm; rw [decide_eq_false_iff_not]; omega) | (rw [decide_eq_decide]; omega)) (by rfl) rfl rfl
      · -- 72 is False
        refine wl_unwanted rfl rfl rfl rfl rfl rfl rfl rfl ?_
        refine wl_unwanted rfl rfl rfl rfl rfl rfl rfl rfl ?_
        refine wl_det rfl rfl rfl (op_pick_f rfl rfl) ?_
        refine wl_det rfl rfl rfl (op_move rfl) ?_
        refine wl_unwanted rfl rfl rfl rfl rfl rfl rfl rfl ?_
        refine wl_unwanted rfl rfl rfl rfl rfl rfl rfl rfl ?_
        refine wl_unwanted rfl rfl rfl rfl rfl rfl rfl rfl ?_
        refine wl_unwantedU rfl rfl rfl rfl rfl rfl rfl ?_
        refine wl_unwantedU rfl rfl rfl rfl rfl rfl rfl ?_
        refine wl_unwantedU rfl rfl rfl rfl rfl rfl rfl ?_
        refine wl_unwantedU rfl rfl rfl rfl rfl rfl rfl ?_
        refine wl_unwantedU rfl rfl rfl rfl rfl rfl rfl ?_
        refine wl_unwanted rfl rfl rfl rfl rfl rfl rfl rfl ?_
        refine wl_det rfl rfl rfl (op_pick_f rfl rfl) ?_
        refine wl_nil ?_
        refine st_tn ?_
        exact cut_done1 [4, 5, 33] hK rfl (by first | (exfalso; omega) | (symm; rw [decide_eq_false_iff_not]; omega) | (rw [decide_eq_decide]; omega)) (by rfl) rfl rfl
    · -- behind r7
      show W _ _ _ _ _ [(86, _), (0, _), (4, _), (7, _), (8, _), (9, _), (11, _), (12, _)] [(4, _), (5, _), (33, _)] _
      refine w_cond_d rfl (fun hc86 => ?_) (fun hc86 => ?_)
      · -- c86.t
        omega
      · -- c86.f
        refine w_skip ?_
        refine st_tn ?_
        refine w_seq ?_
        have hl3 : ([] ++ s ++ [(⟨mf, mt, mb⟩ : Arc)]).length = s.length + 1 := by simp
        have hnl2 := len_nodes (sysL s)
        refine w_drawW (fun β => [⟨88, [], [], [], fun w => DetW _ _, true, [], []⟩, ⟨89, [], [], [], noW (_), false, [], []⟩, ⟨90, [1], [0], [], fun w => DetW _ _, true, [], []⟩, ⟨91, [], [], [], noW (_), false, [], []⟩, ⟨92, [3], [], [], fun w => DetW _ _, false, [], []⟩, ⟨93, [4], [2], [], fun w => DetW _ _, false, [], []⟩, ⟨94, [5], [], [], fun w => DetW _ _, false, [], []⟩, ⟨95, [], [], [], noW (_), false, [], []⟩, ⟨96, [], [], [], noW (_), false, [], []⟩, ⟨97, [6, 7, 8], [], [], noW (_), false, [], []⟩, ⟨87, [9], [], [], noW (_), false, [], []⟩, ⟨98, [10], [], [], noW (_), false, [], []⟩, ⟨99, [10], [], [], noW (_), false, [], []⟩, ⟨17, [11], [], [], noW (_), false, [], []⟩]) [] [0, 4, 8, 9] [⟨88, [], [], true, [], []⟩, ⟨89, [], [], false, [], []⟩, ⟨90, [1], [0], true, [], []⟩, ⟨91, [], [], false, [], []⟩, ⟨92, [3], [], false, [], []⟩, ⟨93, [4], [2], false, [], []⟩, ⟨94, [5], [], false, [], []⟩, ⟨95, [], [], false, [], []⟩, ⟨96, [], [], false, [], []⟩, ⟨97, [6, 7, 8], [], false, [], []⟩, ⟨87, [9], [], false, [], []⟩, ⟨98, [10], [], false, [], []⟩, ⟨99, [10], [], false, [], []⟩, ⟨17, [11], [], false, [], []⟩] [[], [], [0], [], [], [0, 2, 4], [0, 2, 4, 5], [], [], [0, 2, 4, 5, 6], [0, 2, 4, 5, 6], [0, 2, 4, 5, 6], [0, 2, 4, 5, 6], [0, 2, 4, 5, 6]] [[], [], [], [], [], [], [], [], [], [], [], [], [], []] tMixt (fun _ => by rfl) (fun _ => by rfl) (by kernel_rfl) (by kernel_rfl) (by rfl) (by rfl)
            (fun β => ⟨.px rfl (by intro X; refine OpT.mono (op_lit0 (enc := encA) (lab := 88) tS22t) ?_; rintro _ _ ⟨a88, c88, rfl, rfl⟩; obtain ⟨w, rfl, rfl⟩ : ∃ w : Wt, w.a = a88 ∧ w.c = c88 := ⟨{ a := a88, c := c88 }, rfl, rfl⟩; exact ⟨w, rfl, rfl⟩),
            ⟨.p rfl (by intro X; exact op_move rfl),
            ⟨.px rfl (by intro X; rintro _ _ ⟨rfl, rfl⟩ _ _ ⟨rfl, rfl⟩; show OpT _ _ _ _ _ _ [(_, _)] _; refine OpT.mono (op_append (lab := 88) (lab' := 90) rfl rfl tP22t enc1A (Sl.app (Sl.app h X) _) (by first | omega | (simp; done) | (simp; omega) | (simp [*]; omega)) (by first | omega | (simp; done) | (simp; omega) | (simp [*]; omega))) ?_; rintro _ _ ⟨a90, c90, rfl, rfl⟩; obtain ⟨w, rfl, rfl⟩ : ∃ w : Wt, w.a = a90 ∧ w.c = c90 := ⟨{ a := a90, c := c90 }, rfl, rfl⟩; exact ⟨w, rfl, rfl⟩),
            ⟨.p rfl (by intro X; exact op_loadA rfl tA43t (Ent.lab (l := 4) rfl (says_cel 0)) (Nat.le_of_ble_eq_true rfl)),
            ⟨.px rfl (by intro X; rintro _ _ ⟨rfl, rfl⟩; refine OpT.mono (op_buildSlice (enc := encA) (l := [(⟨mf, mt, mb⟩ : Arc)]) (lab := 92) tL22_1t rfl rfl (fun _ => rfl) rfl) ?_; rintro _ _ ⟨a92, c92, rfl, rfl⟩; obtain ⟨w, rfl, rfl⟩ : ∃ w : Wt, w.a = a92 ∧ w.c = c92 := ⟨{ a := a92, c := c92 }, rfl, rfl⟩; exact ⟨w, rfl, rfl⟩),
            ⟨.px rfl (by intro X; rintro _ _ ⟨rfl, rfl⟩ _ _ ⟨rfl, rfl⟩; show OpT _ _ _ _ _ _ [(_, _)] _; refine OpT.mono (op_append (lab := 90) (lab' := 93) rfl rfl tP22t enc1A (Sl.lab 92 rfl (by simp [maxLen])) (by first | omega | (simp; done) | (simp; omega) | (simp [*]; omega)) (by first | omega | (simp; done) | (simp; omega) | (simp [*]; omega))) ?_; rintro _ _ ⟨a93, c93, rfl, rfl⟩; obtain ⟨w, rfl, rfl⟩ : ∃ w : Wt, w.a = a93 ∧ w.c = c93 := ⟨{ a := a93, c := c93 }, rfl, rfl⟩; exact ⟨w, rfl, rfl⟩),
            ⟨.px rfl (by intro X; rintro _ _ ⟨rfl, rfl⟩; refine OpT.mono (op_fn Try.func16 rfl rfl rfl (sys_any 94 (Sl.lab 93 rfl (by unfold maxLen; omega)) (by assumption))) ?_; rintro _ _ ⟨a94, c94, rfl, rfl⟩; obtain ⟨w, rfl, rfl⟩ : ∃ w : Wt, w.a = a94 ∧ w.c = c94 := ⟨{ a := a94, c := c94 }, rfl, rfl⟩; exact ⟨w, rfl, rfl⟩),
            ⟨.p rfl (by intro X; exact op_move rfl),
            ⟨.p rfl (by intro X; exact op_move rfl),
            ⟨.p rfl (by intro X; rintro _ _ ⟨rfl, rfl⟩ _ _ ⟨rfl, rfl⟩ _ _ ⟨rfl, rfl⟩; exact op_fn Try.func22 rfl rfl rfl (dist_any _ _ (Sl.lab 94 rfl (by unfold maxLen; omega)) (by assumption) (by assumption))),
            ⟨.p rfl (by intro X; rintro _ _ ⟨rfl, rfl⟩; exact op_move rfl),
            ⟨.p rfl (by intro X; rintro _ _ ⟨rfl, rfl⟩; exact op_extract rfl rfl),
            ⟨.p rfl (by intro X; rintro _ _ ⟨rfl, rfl⟩; exact op_extract rfl rfl),
            ⟨.p rfl (by intro X; rintro _ _ ⟨rfl, rfl⟩; exact op_assign rfl),
            trivial⟩⟩⟩⟩⟩⟩⟩⟩⟩⟩⟩⟩⟩⟩)
            (fun β β' => ⟨fun _ => by rfl, ⟨fun _ => by rfl, ⟨fun h => by first | rfl | (simp only [h 0 (by decide)]), ⟨fun _ => by rfl, ⟨fun _ => by rfl, ⟨fun h => by first | rfl | (simp only [h 0 (by decide), h 2 (by decide), h 4 (by decide)]), ⟨fun h => by first | rfl | (simp only [h 0 (by decide), h 2 (by decide), h 4 (by decide), h 5 (by decide)]), ⟨fun _ => by rfl, ⟨fun _ => by rfl, ⟨fun h => by first | rfl | (simp only [h 0 (by decide), h 2 (by decide), h 4 (by decide), h 5 (by decide), h 6 (by decide)]), ⟨fun h => by first | rfl | (simp only [h 0 (by decide), h 2 (by decide), h 4 (by decide), h 5 (by decide), h 6 (by decide)]), ⟨fun h => by first | rfl | (simp only [h 0 (by decide), h 2 (by decide), h 4 (by decide), h 5 (by decide), h 6 (by decide)]), ⟨fun h => by first | rfl | (simp only [h 0 (by decide), h 2 (by decide), h 4 (by decide), h 5 (by decide), h 6 (by decide)]), ⟨fun h => by first | rfl | (simp only [h 0 (by decide), h 2 (by decide), h 4 (by decide), h 5 (by decide), h 6 (by decide)]), trivial⟩⟩⟩⟩⟩⟩⟩⟩⟩⟩⟩⟩⟩⟩) ?_
        intro β
        rintro _ _ ⟨rfl, rfl⟩ _ _ ⟨rfl, rfl⟩ _ _ ⟨rfl, rfl⟩ _ _ ⟨rfl, rfl⟩ _ _ ⟨rfl, rfl⟩ _ _ ⟨rfl, rfl⟩ _ _ ⟨rfl, rfl⟩ _ _ ⟨rfl, rfl⟩ _ _ ⟨rfl, rfl⟩ _ _ ⟨rfl, rfl⟩ _ _ ⟨rfl, rfl⟩ _ _ ⟨rfl, rfl⟩ _ _ ⟨rfl, rfl⟩ _ _ ⟨rfl, rfl⟩
        generalize (β 0).a = a88
        generalize (β 0).c = c88
        generalize (β 2).a = a90
        generalize (β 2).c = c90
        generalize (β 4).a = a92
        generalize (β 4).c = c92
        generalize (β 5).a = a93
        generalize (β 5).c = c93
        generalize (β 6).a = a94
        generalize (β 6).c = c94
        refine wl_norm (e' := [(7, _), (8, _), (9, _), (11, _), (12, _), (17, _), (99, _)]) (.cons rfl (.cons rfl (.cons rfl (.cons rfl (.cons rfl (.cons rfl (.cons rfl (.nil _)))))))) (by dsimp only [cond_false, cond_true, List.nil_append, List.cons_append]) ?_
        refine wl_det rfl rfl rfl (op_assign rfl) ?_
        refine wl_nil ?_
        refine st_tn ?_
        refine w_seq ?_
        refine w_seq ?_
        have hmo := more_or (sysL s) [conOf ⟨mf, mt, mb⟩] (y0 % 6 - 1) (y1 % 6 - 1)
        rw [← sysL_more (by omega), ← dist_eq (sysL ([] ++ s ++ [(⟨mf, mt, mb⟩ : Arc)]))] at hmo
        refine w_cutL [(118, .bool (decide ((y0 < 0))))] [7, 8, 9, 11, 12] [4, 5, 33, 92, 93, 94] rfl (fun K' hK => ?_) ?_
        · -- cut r10
          refine w_region ?_
          refine wl_det rfl rfl rfl (op_move rfl) ?_
          refine wl_det rfl rfl rfl (op_eql rfl rfl) ?_
          refine wl_det rfl rfl rfl (op_move rfl) ?_
          refine wl_gsplit (t := 102) rfl (fun hg102 => ?_) (fun hg102 => ?_)
          · -- 102 is True
            refine wl_wanted_det rfl rfl rfl rfl rfl rfl rfl (op_move rfl) ?_
            refine wl_wanted_det rfl rfl rfl rfl rfl rfl rfl (op_neq rfl rfl) ?_
            refine wl_wanted_det rfl rfl rfl rfl rfl rfl rfl (op_move rfl) ?_
            refine wl_gsplit (t := 105) rfl (fun hg105 => ?_) (fun hg105 => ?_)
            · -- 105 is True
              refine wl_wanted_det rfl rfl rfl rfl rfl rfl rfl (op_move rfl) ?_
              refine wl_wanted_det rfl rfl rfl rfl rfl rfl rfl (op_neq rfl rfl) ?_
              refine wl_wanted_det rfl rfl rfl rfl rfl rfl rfl (op_pick_t rfl rfl) ?_
              refine wl_wanted_det rfl rfl rfl rfl rfl rfl rfl (op_move rfl) ?_
              refine wl_gsplit (t := 109) rfl (fun hg109 => ?_) (fun hg109 => ?_)
              · -- 109 is True
                refine wl_unwanted rfl rfl rfl rfl rfl rfl rfl rfl ?_
                refine wl_unwanted rfl rfl rfl rfl rfl rfl rfl rfl ?_
                refine wl_unwanted rfl rfl rfl rfl rfl rfl rfl rfl ?_
                refine wl_unwantedU rfl rfl rfl rfl rfl rfl rfl ?_
                refine wl_unwantedU rfl rfl rfl rfl rfl rfl rfl ?_
                refine wl_unwantedU rfl rfl rfl rfl rfl rfl rfl ?_
                refine wl_unwanted rfl rfl rfl rfl rfl rfl rfl rfl ?_
                refine wl_wanted_det rfl rfl rfl rfl rfl rfl rfl (op_pick_t rfl rfl) ?_
                refine wl_det rfl rfl rfl (op_pick_t rfl rfl) ?_
                refine wl_nil ?_
                refine st_tn ?_
                exact cut_done1 [4, 5, 33, 92, 93, 94] hK rfl (by first | (exfalso; omega) | (symm; rw [decide_eq_false_iff_not]; omega) | (rw [decide_eq_decide]; omega)) (by rfl) rfl rfl
              · -- 109 is False
                refine wl_wanted_det rfl rfl rfl rfl rfl rfl rfl (op_move rfl) ?_
                refine wl_wanted_det rfl rfl rfl rfl rfl rfl rfl (op_eql rfl rfl) ?_
                refine wl_wanted_det rfl rfl rfl rfl rfl rfl rfl (op_move rfl) ?_
                refine wl_gsplit (t := 112) rfl (fun hg112 => ?_) (fun hg112 => ?_)
                · -- 112 is True
                  refine wl_wanted_det rfl rfl rfl rfl rfl rfl rfl (op_move rfl) ?_
                  refine wl_wanted_det rfl rfl rfl rfl rfl rfl rfl (op_move rfl) ?_
                  refine wl_wanted_det rfl rfl rfl rfl rfl rfl rfl (op_gtr rfl rfl) ?_
                  refine wl_wanted_det rfl rfl rfl rfl rfl rfl rfl (op_pick_t rfl rfl) ?_
                  refine wl_wanted_det rfl rfl rfl rfl rfl rfl rfl (op_pick_f rfl rfl) ?_
                  refine wl_det rfl rfl rfl (op_pick_t rfl rfl) ?_
                  refine wl_nil ?_
                  refine st_tn ?_
                  exact cut_done1 [4, 5, 33, 92, 93, 94] hK rfl (by first | (exfalso; omega) | (symm; rw [decide_eq_false_iff_not]; omega) | (rw [decide_eq_decide]; omega)) (by rfl) rfl rfl
                · -- 112 is False
                  refine wl_unwanted rfl rfl rfl rfl rfl rfl rfl rfl ?_
                  refine wl_unwanted rfl rfl rfl rfl rfl rfl rfl rfl ?_
                  refine wl_unwanted rfl rfl rfl rfl rfl rfl rfl rfl ?_
                  refine wl_wanted_det rfl rfl rfl rfl rfl rfl rfl (op_pick_f rfl rfl) ?_
                  refine wl_wanted_det rfl rfl rfl rfl rfl rfl rfl (op_pick_f rfl rfl) ?_
                  refine wl_det rfl rfl rfl (op_pick_t rfl rfl) ?_
                  refine wl_nil ?_
                  refine st_tn ?_
                  exact cut_done1 [4, 5, 33, 92, 93, 94] hK rfl (by first | (exfalso; omega) | (symm; rw [decide_eq_false_iff_not]; omega) | (rw [decide_eq_decide]; omega)) (by rfl) rfl rfl
            · -- 105 is False
              refine wl_unwanted rfl rfl rfl rfl rfl rfl rfl rfl ?_
              refine wl_unwanted rfl rfl rfl rfl rfl rfl rfl rfl ?_
              refine wl_wanted_det rfl rfl rfl rfl rfl rfl rfl (op_pick_f rfl rfl) ?_
              refine wl_wanted_det rfl rfl rfl rfl rfl rfl rfl (op_move rfl) ?_
              refine wl_wanted_det rfl rfl rfl rfl rfl rfl rfl (op_move rfl) ?_
              refine wl_wanted_det rfl rfl rfl rfl rfl rfl rfl (op_eql rfl rfl) ?_
              refine wl_wanted_det rfl rfl rfl rfl rfl rfl rfl (op_move rfl) ?_
              refine wl_gsplit (t := 112) rfl (fun hg112 => ?_) (fun hg112 => ?_)
              · -- 112 is True
                refine wl_wanted_det rfl rfl rfl rfl rfl rfl rfl (op_move rfl) ?_
                refine wl_wanted_det rfl rfl rfl rfl rfl rfl rfl (op_move rfl) ?_
                refine wl_wanted_det rfl rfl rfl rfl rfl rfl rfl (op_gtr rfl rfl) ?_
                refine wl_wanted_det rfl rfl rfl rfl rfl rfl rfl (op_pick_t rfl rfl) ?_
                refine wl_wanted_det rfl rfl rfl rfl rfl rfl rfl (op_pick_f rfl rfl) ?_
                refine wl_det rfl rfl rfl (op_pick_t rfl rfl) ?_
                refine wl_nil ?_
                refine st_tn ?_
                exact cut_done1 [4, 5, 33, 92, 93, 94] hK rfl (by first | (exfalso; omega) | (symm; rw [decide_eq_false_iff_not]; omega) | (rw [decide_eq_decide]; omega)) (by rfl) rfl rfl
              · -- 112 is False
                refine wl_unwanted rfl rfl rfl rfl rfl rfl rfl rfl ?_
                refine wl_unwanted rfl rfl rfl rfl rfl rfl rfl rfl ?_
                refine wl_unwanted rfl rfl rfl rfl rfl rfl rfl rfl ?_
                refine wl_wanted_det rfl rfl rfl rfl rfl rfl rfl (op_pick_f rfl rfl) ?_
                refine wl_wanted_det rfl rfl rfl rfl rfl rfl rfl (op_pick_f rfl rfl) ?_
                refine wl_det rfl rfl rfl (op_pick_t rfl rfl) ?_
                refine wl_nil ?_
                refine st_tn ?_
                exact cut_done1 [4, 5, 33, 92, 93, 94] hK rfl (by first | (exfalso; omega) | (symm; rw [decide_eq_false_iff_not]; omega) | (rw [decide_eq_decide]; omega)) (by rfl) rfl rfl
          · -- 102 is False
            refine wl_unwanted rfl rfl rfl rfl rfl rfl rfl rfl ?_
            refine wl_unwanted rfl rfl rfl rfl rfl rfl rfl rfl ?_
            refine wl_unwanted rfl rfl rfl rfl rfl rfl rfl rfl ?_
            refine wl_unwantedU rfl rfl rfl rfl rfl rfl rfl ?_
            refine wl_unwantedU rfl rfl rfl rfl rfl rfl rfl ?_
            refine wl_unwanted rfl rfl rfl rfl rfl rfl rfl rfl ?_
            refine wl_unwanted rfl rfl rfl rfl rfl rfl rfl rfl ?_
            refine wl_unwantedU rfl rfl rfl rfl rfl rfl rfl ?_
            refine wl_unwantedU rfl rfl rfl rfl rfl rfl rfl ?_
            refine wl_unwantedU rfl rfl rfl rfl rfl rfl rfl ?_
            refine wl_unwantedU rfl rfl rfl rfl rfl rfl rfl ?_
            refine wl_unwantedU rfl rfl rfl rfl rfl rfl rfl ?_
            refine wl_unwantedU rfl rfl rfl rfl rfl rfl rfl ?_
            refine wl_unwantedU rfl rfl rfl rfl rfl rfl rfl ?_
            refine wl_unwanted rfl rfl rfl rfl rfl rfl rfl rfl ?_
            refine wl_det rfl rfl rfl (op_pick_f rfl rfl) ?_
            refine wl_nil ?_
            refine st_tn ?_
            exact cut_done1 [4, 5, 33, 92, 93, 94] hK rfl (by first | (exfalso; omega) | (symm; rw [decide_eq_false_iff_not]; omega) | (rw [decide_eq_decide]; omega)) (by rfl) rfl rfl
        · -- behind r10
          show W _ _ _ _ _ [(118, _), (7, _), (8, _), (9, _), (11, _), (12, _)] [(4, _), (5, _), (33, _), (92, _), (93, _), (94, _)] _
          refine w_cond_d rfl (fun hc118 => ?_) (fun hc118 => ?_)
          · -- c118.t
            omega
          · -- c118.f
            refine w_skip ?_
            refine st_tn ?_
            refine w_seq ?_
            refine w_region ?_
            refine wl_det rfl rfl rfl (op_move rfl) ?_
            refine wl_op [] rfl rfl rfl rfl (op_fn Try.func24 rfl rfl rfl (solve_any 121 (Sl.lab 33 rfl (by unfold maxLen; omega)) (by assumption) (by assumption))) ?_
            rintro _ _ ⟨a121, c121, rfl, rfl⟩
            refine wl_det rfl rfl rfl (op_move rfl) ?_
            refine wl_det rfl rfl rfl (op_extract rfl rfl) ?_
            refine wl_det rfl rfl rfl (op_extract rfl rfl) ?_
            refine wl_det rfl rfl rfl (op_assign rfl) ?_
            refine wl_det rfl rfl rfl (op_assign rfl) ?_
            refine wl_nil ?_
            refine st_tn ?_
            refine w_seq ?_
            refine w_seq ?_
            refine w_region ?_
            refine wl_det rfl rfl rfl (op_move rfl) ?_
            refine wl_det rfl rfl rfl (op_neq rfl rfl) ?_
            refine wl_det rfl rfl rfl (op_move rfl) ?_
            refine wl_gsplit (t := 126) rfl (fun hg126 => ?_) (fun hg126 => ?_)
            · -- 126 is True
              refine wl_unwanted rfl rfl rfl rfl rfl rfl rfl rfl ?_
              refine wl_unwanted rfl rfl rfl rfl rfl rfl rfl rfl ?_
              refine wl_det rfl rfl rfl (op_pick_t rfl rfl) ?_
              refine wl_nil ?_
              refine st_tn ?_
              refine w_cond_t (rfl) ?_
              refine w_seq ?_
              refine w_region ?_
              refine wl_det rfl rfl rfl (op_assign rfl) ?_
              refine wl_nil ?_
              refine st_tn ?_
              refine w_ret ?_
              refine st_tr ?_
              refine st_ret (vs := [_]) [] Try.results5 ⟨rfl, trivial⟩ rfl ?_
              refine ⟨_, rfl, ?_⟩
              exact ⟨rfl, rfl⟩
            · -- 126 is False
              refine wl_wanted_det rfl rfl rfl rfl rfl rfl rfl (op_move rfl) ?_
              refine wl_wanted_det rfl rfl rfl rfl rfl rfl rfl (op_neq rfl rfl) ?_
              refine wl_det rfl rfl rfl (op_pick_f rfl rfl) ?_
              refine wl_nil ?_
              refine st_tn ?_
              refine w_cond_d rfl (fun hc129 => ?_) (fun hc129 => ?_)
              · -- c129.t
                refine w_seq ?_
                refine w_region ?_
                refine wl_det rfl rfl rfl (op_assign rfl) ?_
                refine wl_nil ?_
                refine st_tn ?_
                refine w_ret ?_
                refine st_tr ?_
                refine st_ret (vs := [_]) [] Try.results5 ⟨rfl, trivial⟩ rfl ?_
                refine ⟨_, rfl, ?_⟩
                exact ⟨rfl, rfl⟩
              · -- c129.f
                have hE : solE (sysL s) = 0 := by first | omega | (simp_all; done)
                have hD : (distR (sysL s) (y0 % 6 - 1) (y1 % 6 - 1)).2 = 0 := by first | omega | (simp_all; done)
                have hF : Feas (sysL s) := (sol_feas (sysL s)).1 hE
                have hL := solL_feas hF
                have hsl : (solL (sysL s)).length = (nodes (sysL s)).length := by rw [hL, List.length_map]
                refine w_skip ?_
                refine st_tn ?_
                refine w_seq ?_
                refine w_region ?_
                refine wl_det rfl rfl rfl (op_assign rfl) ?_
                refine wl_det rfl rfl rfl (op_assign rfl) ?_
                refine wl_nil ?_
                refine st_tn ?_
                refine w_seq ?_
                refine w_seq ?_
                refine w_region ?_
                refine wl_det rfl rfl rfl (op_assign rfl) ?_
                refine wl_nil ?_
                refine st_tn ?_
                refine w_block ?_
                refine w_loopQ (X := Int × Int × Nat) (fun z => z.2.2 ≤ (nodes (sysL s)).length ∧ z.1 = (if y0 % 6 - 1 ∈ (nodes (sysL s)).take z.2.2 then (potF (sysL s) (y0 % 6 - 1)).getD 0 else 0) ∧ z.2.1 = (if y1 % 6 - 1 ∈ (nodes (sysL s)).take z.2.2 then (potF (sysL s) (y1 % 6 - 1)).getD 0 else 0)) (fun z => [(21, .int .i64 (z.1)), (22, .int .i64 (z.2.1)), (23, .int .i64 (z.2.2))]) (fun _ => []) (fun z => (nodes (sysL s)).length - z.2.2) ((_, _, 0)) [(8, _), (9, _), (11, _), (19, _)] [(4, _), (5, _), (33, _), (92, _), (93, _), (94, _), (121, _)] [4, 5, 33, 92, 93, 94, 121] rfl (rfl) (.cons rfl (.cons rfl (.cons rfl (.nil _)))) (.cons rfl (.cons rfl (.cons rfl (.cons rfl (.nil _))))) (by
                    try dsimp only
                    exact ⟨Nat.zero_le _, by simp, by simp⟩) ?_
                rintro ⟨f1, f2, i⟩ ⟨hi, h1, h2⟩
                refine w_norm2 (by dsimp only [List.cons_append, List.nil_append]) (by dsimp only [List.cons_append, List.nil_append]) ?_
                try dsimp only at hi h1 h2 ⊢
                refine w_seq ?_
                refine w_seq ?_
                refine w_region ?_
                refine wl_det rfl rfl rfl (op_move rfl) ?_
                refine wl_det rfl rfl rfl (op_move rfl) ?_
                refine wl_det rfl rfl rfl (op_lenT rfl tS45t (Sl.ent (Sl.lab 121 rfl (by unfold maxLen; omega)))) ?_
                refine wl_det rfl rfl rfl (op_lss rfl rfl) ?_
                refine wl_nil ?_
                refine st_tn ?_
                refine w_cond_d rfl (fun hc133 => ?_) (fun hc133 => ?_)
                · -- c133.t
                  obtain ⟨k, hk⟩ := getE (l := nodes (sysL s)) (i := i) (by omega)
                  have hlt := ltE hk
                  have hx1 : (solL (sysL s))[i]? = some (k, (potF (sysL s) k).getD 0) := by rw [hL]; exact get_map _ hk
                  refine w_skip ?_
                  refine st_tn ?_
                  refine w_seq ?_
                  refine w_block ?_
                  refine w_seq ?_
                  refine w_seq ?_
                  refine w_region ?_
                  refine wl_det rfl rfl rfl (op_move rfl) ?_
                  refine wl_det rfl rfl rfl (op_move rfl) ?_
                  refine wl_det rfl rfl rfl (op_idx rfl rfl tS45t (Sl.ent (Sl.lab 121 rfl (by unfold maxLen; omega))) (by omega)) ?_
                  refine wl_det rfl rfl rfl (op_fieldAddr (off := 0) rfl tF49_0t) ?_
                  refine wl_det rfl rfl rfl (op_ldxf rfl tO3t (Sl.lab 121 rfl (by unfold maxLen; omega)) (by assumption) (by rfl)) ?_
                  refine wl_det rfl rfl rfl (op_move rfl) ?_
                  refine wl_det rfl rfl rfl (op_eql rfl rfl) ?_
                  refine wl_nil ?_
                  refine st_tn ?_
                  refine w_cond_d rfl (fun hc142 => ?_) (fun hc142 => ?_)
                  · -- c142.t
                    refine w_region ?_
                    refine wl_det rfl rfl rfl (op_move rfl) ?_
                    refine wl_det rfl rfl rfl (op_move rfl) ?_
                    refine wl_det rfl rfl rfl (op_idx rfl rfl tS45t (Sl.ent (Sl.lab 121 rfl (by unfold maxLen; omega))) (by omega)) ?_
                    refine wl_det rfl rfl rfl (op_fieldAddr (off := 1) rfl tF49_1t) ?_
                    refine wl_det rfl rfl rfl (op_ldxf rfl tO3t (Sl.lab 121 rfl (by unfold maxLen; omega)) (by assumption) (by rfl)) ?_
                    refine wl_det rfl rfl rfl (op_assign rfl) ?_
                    refine wl_nil ?_
                    refine st_tn ?_
                    refine w_seq ?_
                    refine w_region ?_
                    refine wl_det rfl rfl rfl (op_move rfl) ?_
                    refine wl_det rfl rfl rfl (op_move rfl) ?_
                    refine wl_det rfl rfl rfl (op_idx rfl rfl tS45t (Sl.ent (Sl.lab 121 rfl (by unfold maxLen; omega))) (by omega)) ?_
                    refine wl_det rfl rfl rfl (op_fieldAddr (off := 0) rfl tF49_0t) ?_
                    refine wl_det rfl rfl rfl (op_ldxf rfl tO3t (Sl.lab 121 rfl (by unfold maxLen; omega)) (by assumption) (by rfl)) ?_
                    refine wl_det rfl rfl rfl (op_move rfl) ?_
                    refine wl_det rfl rfl rfl (op_eql rfl rfl) ?_
                    refine wl_nil ?_
                    refine st_tn ?_
                    refine w_cond_d rfl (fun hc154 => ?_) (fun hc154 => ?_)
                    · -- c154.t
                      refine w_region ?_
                      refine wl_det rfl rfl rfl (op_move rfl) ?_
                      refine wl_det rfl rfl rfl (op_move rfl) ?_
                      refine wl_det rfl rfl rfl (op_idx rfl rfl tS45t (Sl.ent (Sl.lab 121 rfl (by unfold maxLen; omega))) (by omega)) ?_
                      refine wl_det rfl rfl rfl (op_fieldAddr (off := 1) rfl tF49_1t) ?_
                      refine wl_det rfl rfl rfl (op_ldxf rfl tO3t (Sl.lab 121 rfl (by unfold maxLen; omega)) (by assumption) (by rfl)) ?_
                      refine wl_det rfl rfl rfl (op_assign rfl) ?_
                      refine wl_nil ?_
                      refine st_bn ?_
                      refine st_tn ?_
                      refine w_region ?_
                      refine wl_det rfl rfl rfl (op_move rfl) ?_
                      refine wl_det rfl rfl rfl (op_add' rfl rfl (by omega)) ?_
                      refine wl_det rfl rfl rfl (op_assign rfl) ?_
                      refine wl_nil ?_
                      refine st_roundQ (x := (f1, f2, i)) (((potF (sysL s) k).getD 0, (potF (sysL s) k).getD 0, i + 1)) [4, 5, 33, 92, 93, 94, 121] rfl (rfl) (.cons rfl (.cons rfl (.cons rfl (.nil _)))) (.cons rfl (.cons rfl (.cons rfl (.cons rfl (.nil _))))) (by
                          try dsimp only
                          refine ⟨by omega, ?_, ?_⟩; (· rw [upd_eq (v := fun x => (potF (sysL s) x).getD 0) hk]; first | rw [if_pos hc142] | (rw [if_neg hc142]; exact h1)); (· rw [upd_eq (v := fun x => (potF (sysL s) x).getD 0) hk]; first | rw [if_pos hc154] | (rw [if_neg hc154]; exact h2))) (by
                          try dsimp only
                          omega) 
                    · -- c154.f
                      refine w_skip ?_
                      refine st_bn ?_
                      refine st_tn ?_
                      refine w_region ?_
                      refine wl_det rfl rfl rfl (op_move rfl) ?_
                      refine wl_det rfl rfl rfl (op_add' rfl rfl (by omega)) ?_
                      refine wl_det rfl rfl rfl (op_assign rfl) ?_
                      refine wl_nil ?_
                      refine st_roundQ (x := (f1, f2, i)) (((potF (sysL s) k).getD 0, _, i + 1)) [4, 5, 33, 92, 93, 94, 121] rfl (rfl) (.cons rfl (.cons rfl (.cons rfl (.nil _)))) (.cons rfl (.cons rfl (.cons rfl (.cons rfl (.nil _))))) (by
                          try dsimp only
                          refine ⟨by omega, ?_, ?_⟩; (· rw [upd_eq (v := fun x => (potF (sysL s) x).getD 0) hk]; first | rw [if_pos hc142] | (rw [if_neg hc142]; exact h1)); (· rw [upd_eq (v := fun x => (potF (sysL s) x).getD 0) hk]; first | rw [if_pos hc154] | (rw [if_neg hc154]; exact h2))) (by
                          try dsimp only
                          omega) 
                  · -- c142.f
                    refine w_skip ?_
                    refine st_tn ?_
                    refine w_seq ?_
                    refine w_region ?_
                    refine wl_det rfl rfl rfl (op_move rfl) ?_
                    refine wl_det rfl rfl rfl (op_move rfl) ?_
                    refine wl_det rfl rfl rfl (op_idx rfl rfl tS45t (Sl.ent (Sl.lab 121 rfl (by unfold maxLen; omega))) (by omega)) ?_
                    refine wl_det rfl rfl rfl (op_fieldAddr (off := 0) rfl tF49_0t) ?_
                    refine wl_det rfl rfl rfl (op_ldxf rfl tO3t (Sl.lab 121 rfl (by unfold maxLen; omega)) (by assumption) (by rfl)) ?_
                    refine wl_det rfl rfl rfl (op_move rfl) ?_
                    refine wl_det rfl rfl rfl (op_eql rfl rfl) ?_
                    refine wl_nil ?_
                    refine st_tn ?_
                    refine w_cond_d rfl (fun hc154 => ?_) (fun hc154 => ?_)
                    · -- c154.t
                      refine w_region ?_
                      refine wl_det rfl rfl rfl (op_move rfl) ?_
                      refine wl_det rfl rfl rfl (op_move rfl) ?_
                      refine wl_det rfl rfl rfl (op_idx rfl rfl tS45t (Sl.ent (Sl.lab 121 rfl (by unfold maxLen; omega))) (by omega)) ?_
                      refine wl_det rfl rfl rfl (op_fieldAddr (off := 1) rfl tF49_1t) ?_
                      refine wl_det rfl rfl rfl (op_ldxf rfl tO3t (Sl.lab 121 rfl (by unfold maxLen; omega)) (by assumption) (by rfl)) ?_
                      refine wl_det rfl rfl rfl (op_assign rfl) ?_
                      refine wl_nil ?_
                      refine st_bn ?_
                      refine st_tn ?_
                      refine w_region ?_
                      refine wl_det rfl rfl rfl (op_move rfl) ?_
                      refine wl_det rfl rfl rfl (op_add' rfl rfl (by omega)) ?_
                      refine wl_det rfl rfl rfl (op_assign rfl) ?_
                      refine wl_nil ?_
                      refine st_roundQ (x := (f1, f2, i)) ((_, (potF (sysL s) k).getD 0, i + 1)) [4, 5, 33, 92, 93, 94, 121] rfl (rfl) (.cons rfl (.cons rfl (.cons rfl (.nil _)))) (.cons rfl (.cons rfl (.cons rfl (.cons rfl (.nil _))))) (by
                          try dsimp only
                          refine ⟨by omega, ?_, ?_⟩; (· rw [upd_eq (v := fun x => (potF (sysL s) x).getD 0) hk]; first | rw [if_pos hc142] | (rw [if_neg hc142]; exact h1)); (· rw [upd_eq (v := fun x => (potF (sysL s) x).getD 0) hk]; first | rw [if_pos hc154] | (rw [if_neg hc154]; exact h2))) (by
                          try dsimp only
                          omega) 
                    · -- c154.f
                      refine w_skip ?_
                      refine st_bn ?_
                      refine st_tn ?_
                      refine w_region ?_
                      refine wl_det rfl rfl rfl (op_move rfl) ?_
                      refine wl_det rfl rfl rfl (op_add' rfl rfl (by omega)) ?_
                      refine wl_det rfl rfl rfl (op_assign rfl) ?_
                      refine wl_nil ?_
                      refine st_roundQ (x := (f1, f2, i)) ((_, _, i + 1)) [4, 5, 33, 92, 93, 94, 121] rfl (rfl) (.cons rfl (.cons rfl (.cons rfl (.nil _)))) (.cons rfl (.cons rfl (.cons rfl (.cons rfl (.nil _))))) (by
                          try dsimp only
                          refine ⟨by omega, ?_, ?_⟩; (· rw [upd_eq (v := fun x => (potF (sysL s) x).getD 0) hk]; first | rw [if_pos hc142] | (rw [if_neg hc142]; exact h1)); (· rw [upd_eq (v := fun x => (potF (sysL s) x).getD 0) hk]; first | rw [if_pos hc154] | (rw [if_neg hc154]; exact h2))) (by
                          try dsimp only
                          omega) 
                · -- c133.f
                  refine w_exit ?_
                  refine st_te ?_
                  refine st_te ?_
                  refine st_be ?_
                  refine st_tn ?_
                  refine w_seq ?_
                  have hi2 : i = (nodes (sysL s)).length := by omega
                  obtain ⟨hA, hB, _, _⟩ := dist_ok.1 (Prod.ext rfl hD : distR (sysL s) (y0 % 6 - 1) (y1 % 6 - 1) = ((distR (sysL s) (y0 % 6 - 1) (y1 % 6 - 1)).1, 0))
                  rw [List.take_of_length_le (by omega), if_pos hA] at h1
                  rw [List.take_of_length_le (by omega), if_pos hB] at h2
                  have hdp := dist_pot (Prod.ext rfl hD : distR (sysL s) (y0 % 6 - 1) (y1 % 6 - 1) = ((distR (sysL s) (y0 % 6 - 1) (y1 % 6 - 1)).1, 0)) hF
                  have hbp := bdF_RF (bd_zero (nodes (sysL s))) hsm (nodes (sysL s)).length
                  have pb : ∀ x, -1099511627776 ≤ (potF (sysL s) x).getD 0 ∧ (potF (sysL s) x).getD 0 ≤ 1099511627776 := fun x => by
                    cases hx : potF (sysL s) x with
                    | none => simp
                    | some v => have := hbp x v hx; have := hsm.2; have := len_nodes (sysL s); simp only [Option.getD_some]; omega
                  have pb1 := pb (y0 % 6 - 1)
                  have pb2 := pb (y1 % 6 - 1)
                  refine w_region ?_
                  refine wl_det rfl rfl rfl (op_move rfl) ?_
                  refine wl_det rfl rfl rfl (op_move rfl) ?_
                  refine wl_det rfl rfl rfl (op_sub' rfl rfl (by omega)) ?_
                  refine wl_det rfl rfl rfl (op_move rfl) ?_
                  refine wl_det rfl rfl rfl (op_leq rfl rfl) ?_
                  refine wl_det rfl rfl rfl (op_val (v' := .bool true) (by congr 1; rw [decide_eq_true_iff]; omega) (op_assign rfl)) ?_
                  refine wl_nil ?_
                  refine st_tn ?_
                  refine w_ret ?_
                  refine st_ret (vs := [_]) [] Try.results5 ⟨rfl, trivial⟩ rfl ?_
                  refine ⟨_, rfl, ?_⟩
                  exact ⟨rfl, rfl⟩

end Go.Proofs.Ytgdjnjbipemdcaa
