/- Contracts: the reference's distance; the law Distances (layer 9). Conditions: none. -/
import Derived.Test.YtgdjnjbipemdcaaM6
namespace Go.Proofs.Ytgdjnjbipemdcaa
open Go Go.SL Go.RowKit Go.ConM
set_option linter.unusedVariables false
set_option linter.unusedSimpArgs false
theorem tF34_0r : fieldB Try.prog 34 0 0 = true := by kernel_rfl
theorem tF34_1r : fieldB Try.prog 34 1 1 = true := by kernel_rfl
theorem tL26_1r : zerosB Try.prog 26 3 1 1 = some [Value.int .i64 0] := by kernel_rfl
theorem tM26r : makeB Try.prog 26 3 8 = some (Value.int .i64 0) := by kernel_rfl
theorem tM84r : makeB Try.prog 84 4 1 = some (Value.bool false) := by kernel_rfl
theorem tMixr : Try.prog.follows .mixedOrders = true := by kernel_rfl
theorem tO3r : oneB Try.prog 3 = true := by kernel_rfl
theorem tO4r : oneB Try.prog 4 = true := by kernel_rfl
theorem tP26r : appB Try.prog 26 3 1 8 = true := by kernel_rfl
theorem tS24r : sliceB Try.prog 24 34 3 = true := by kernel_rfl
theorem tS26r : sliceB Try.prog 26 3 1 = true := by kernel_rfl
theorem tS84r : sliceB Try.prog 84 4 1 = true := by kernel_rfl

/-- What has been found of a component. -/
structure PartC (l : List Con) (n : Int) (out : List Int) : Prop where
  nod : out.Nodup
  has : n ∈ out
  sub : ∀ k ∈ out, k ∈ compX l n
theorem compX_len (l : List Con) (n : Int) : (compX l n).length ≤ 1 + 2 * l.length := by
  rw [← len_allN l n]
  exact nodup_le (compX_spec l n).nod fun k hk => compX_least (P := (· ∈ allN l n)) (fun c hc => ⟨fun _ => mem_allN.2 (.inr ⟨c, hc, .inr rfl⟩), fun _ => mem_allN.2 (.inr ⟨c, hc, .inl rfl⟩)⟩) (mem_allN.2 (.inl rfl)) k hk
theorem PartC.le {l : List Con} {n : Int} {out : List Int} (h : PartC l n out) : out.length ≤ 1 + 2 * l.length := Nat.le_trans (nodup_le h.nod h.sub) (compX_len l n)
theorem PartC.add {l : List Con} {n x : Int} {out : List Int} (h : PartC l n out) (hx : x ∉ out) (hc : x ∈ compX l n) : PartC l n (out ++ [x]) := by
  refine ⟨?_, List.mem_append_left _ h.has, fun k hk => ?_⟩
  · rw [List.nodup_append]; exact ⟨h.nod, by simp, fun a ha b hb => by rw [List.mem_singleton] at hb; subst hb; exact fun e => hx (e ▸ ha)⟩
  · rcases List.mem_append.1 hk with hk | hk
    · exact h.sub k hk
    · rw [List.mem_singleton] at hk; subst hk; exact hc
theorem mu_lt {A B L : Nat} (h : B + 1 ≤ A) : B * (L + 1) + L < A * (L + 1) := by
  have := Nat.mul_le_mul_right (L + 1) h
  rw [Nat.add_mul, Nat.one_mul] at this; omega
set_option maxHeartbeats 2000000 in
set_option maxRecDepth 100000 in
theorem rcomp_any {σ : World} {F : List Res} {a : Option Addr} {c : Nat} {l : List Con} (lab : Nat) (n : Int) (h : Sl σ F encC 3 (.slice a l.length c) l) (hl : l.length ≤ 16384) :
    FnT Try.prog σ F 42 [.slice a l.length c, .int .i64 n] [] (fun u ρ => ∃ S a c, SS S ∧ (∀ x, x ∈ S ↔ x ∈ compX l n) ∧ u = .slice a S.length c ∧ ρ = [(lab, slW 3 SL.encZ 1 (.slice a S.length c) S)]) := by
  refine fn_of 53 Try.func42 rfl Try.ntmps42 rfl ?_
  have hle := h.i64
  refine w_seq ?_
  refine w_region ?_
  refine wl_det rfl rfl rfl (op_assign rfl) ?_
  refine wl_nil ?_
  refine st_tn ?_
  refine w_seq ?_
  refine w_region ?_
  refine wl_det rfl rfl rfl (op_move rfl) ?_
  refine wl_op [] rfl rfl rfl rfl (op_buildSlice (enc := SL.encZ) (l := [n]) (lab := 10) tL26_1r rfl rfl (fun _ => rfl) rfl) ?_
  rintro _ _ ⟨a10, c10, rfl, rfl⟩
  refine wl_det rfl rfl rfl (op_assign rfl) ?_
  refine wl_nil ?_
  refine st_tn ?_
  refine w_seq ?_
  refine w_seq ?_
  refine w_region ?_
  refine wl_det rfl rfl rfl (op_assign rfl) ?_
  refine wl_nil ?_
  refine st_tn ?_
  refine w_block ?_
  refine w_loopQ (X := Nat × List Int × Option Addr × Nat) (fun z => z.1 ≤ l.length ∧ PartC l n z.2.1 ∧ ∀ c ∈ l.take z.1, (c.f ∈ z.2.1 ↔ c.t ∈ z.2.1)) (fun z => [(6, .int .i64 (z.1)), (5, .slice (z.2.2.1) (z.2.1).length (z.2.2.2))]) (fun z => [(10, slW 3 SL.encZ 1 (.slice (z.2.2.1) (z.2.1).length (z.2.2.2)) (z.2.1))]) (fun z => (1 + 2 * l.length - z.2.1.length) * (l.length + 1) + (l.length - z.1)) ((0, [n], _, _)) [(0, _)] [] [10] rfl (rfl) (.cons rfl (.cons rfl (.nil _))) (.cons rfl (.nil _)) (by
      try dsimp only
      exact ⟨Nat.zero_le _, ⟨by simp, by simp, fun k hk => by rw [List.mem_singleton] at hk; subst hk; exact compX_self l k⟩, by simp⟩) ?_
  rintro ⟨i, out, a_out, c_out⟩ ⟨hi, hP, hall⟩
  refine w_norm2 (by dsimp only [List.cons_append, List.nil_append]) (by dsimp only [List.cons_append, List.nil_append]) ?_
  try dsimp only at hi hP hall ⊢
  refine w_seq ?_
  refine w_seq ?_
  refine w_region ?_
  refine wl_det rfl rfl rfl (op_move rfl) ?_
  refine wl_det rfl rfl rfl (op_move rfl) ?_
  refine wl_det rfl rfl rfl (op_lenT rfl tS24r (Sl.ent (by first | exact Sl.app (by assumption) _ | exact Sl.app (Sl.app (by assumption) _) _))) ?_
  refine wl_det rfl rfl rfl (op_lss rfl rfl) ?_
  refine wl_nil ?_
  refine st_tn ?_
  refine w_cond_d rfl (fun hc14 => ?_) (fun hc14 => ?_)
  · -- c14.t
    obtain ⟨x, hx⟩ := getE (l := l) (i := i) (by omega)
    have hlt := ltE hx
    have hxl := List.mem_of_getElem? hx
    have hpl := hP.le
    refine w_skip ?_
    refine st_tn ?_
    refine w_seq ?_
    refine w_block ?_
    refine w_seq ?_
    refine w_drawW (fun β => [⟨17, [], [], [], noW (_), false, [], []⟩, ⟨18, [], [], [], noW (_), false, [], []⟩, ⟨19, [], [], [], noW (_), false, [], []⟩, ⟨20, [1, 2], [], [], noW (_), false, [], []⟩, ⟨21, [3], [], [], noW (_), false, [], []⟩, ⟨22, [4], [], [], noW (_), false, [], []⟩, ⟨23, [0, 5], [], [], noW (_), false, [], []⟩, ⟨24, [], [], [], noW (_), false, [], []⟩, ⟨25, [], [], [], noW (_), false, [], []⟩, ⟨26, [], [], [], noW (_), false, [], []⟩, ⟨27, [8, 9], [], [], noW (_), false, [], []⟩, ⟨28, [10], [], [], noW (_), false, [], []⟩, ⟨29, [11], [], [], noW (_), false, [], []⟩]) [] [5, 0, 6] [⟨17, [], [], false, [], []⟩, ⟨18, [], [], false, [], []⟩, ⟨19, [], [], false, [], []⟩, ⟨20, [1, 2], [], false, [], []⟩, ⟨21, [3], [], false, [], []⟩, ⟨22, [4], [], false, [], []⟩, ⟨23, [0, 5], [], false, [], []⟩, ⟨24, [], [], false, [], []⟩, ⟨25, [], [], false, [], []⟩, ⟨26, [], [], false, [], []⟩, ⟨27, [8, 9], [], false, [], []⟩, ⟨28, [10], [], false, [], []⟩, ⟨29, [11], [], false, [], []⟩] [[], [], [], [], [], [], [], [], [], [], [], [], []] [[], [], [], [], [], [], [], [], [], [], [], [], []] tMixr (fun _ => by rfl) (fun _ => by rfl) (by kernel_rfl) (by kernel_rfl) (by rfl) (by rfl)
        (fun β => ⟨.p rfl (by intro X; exact op_move rfl),
        ⟨.p rfl (by intro X; exact op_move rfl),
        ⟨.p rfl (by intro X; exact op_move rfl),
        ⟨.p rfl (by intro X; rintro _ _ ⟨rfl, rfl⟩ _ _ ⟨rfl, rfl⟩; exact op_idx rfl rfl tS24r (Sl.ent (by first | exact Sl.app (by assumption) _ | exact Sl.app (Sl.app (by assumption) _) _)) (by omega)),
        ⟨.p rfl (by intro X; rintro _ _ ⟨rfl, rfl⟩; exact op_fieldAddr (off := 0) rfl tF34_0r),
        ⟨.p rfl (by intro X; rintro _ _ ⟨rfl, rfl⟩; exact op_ldxf rfl tO3r (by first | exact Sl.app (by assumption) _ | exact Sl.app (Sl.app (by assumption) _) _) (by assumption) (by rfl)),
        ⟨.p rfl (by intro X; rintro _ _ ⟨rfl, rfl⟩ _ _ ⟨rfl, rfl⟩; exact op_fn Try.func50 rfl rfl rfl (has_any _ (Sl.lab 10 rfl (by unfold maxLen; (try simp only [List.length_append, List.length_singleton]); omega)))),
        ⟨.p rfl (by intro X; exact op_move rfl),
        ⟨.p rfl (by intro X; exact op_move rfl),
        ⟨.p rfl (by intro X; exact op_move rfl),
        ⟨.p rfl (by intro X; rintro _ _ ⟨rfl, rfl⟩ _ _ ⟨rfl, rfl⟩; exact op_idx rfl rfl tS24r (Sl.ent (by first | exact Sl.app (by assumption) _ | exact Sl.app (Sl.app (by assumption) _) _)) (by omega)),
        ⟨.p rfl (by intro X; rintro _ _ ⟨rfl, rfl⟩; exact op_fieldAddr (off := 1) rfl tF34_1r),
        ⟨.p rfl (by intro X; rintro _ _ ⟨rfl, rfl⟩; exact op_ldxf rfl tO3r (by first | exact Sl.app (by assumption) _ | exact Sl.app (Sl.app (by assumption) _) _) (by assumption) (by rfl)),
        trivial⟩⟩⟩⟩⟩⟩⟩⟩⟩⟩⟩⟩⟩)
        (fun β β' => ⟨fun _ => by rfl, ⟨fun _ => by rfl, ⟨fun _ => by rfl, ⟨fun _ => by rfl, ⟨fun _ => by rfl, ⟨fun _ => by rfl, ⟨fun _ => by rfl, ⟨fun _ => by rfl, ⟨fun _ => by rfl, ⟨fun _ => by rfl, ⟨fun _ => by rfl, ⟨fun _ => by rfl, ⟨fun _ => by rfl, trivial⟩⟩⟩⟩⟩⟩⟩⟩⟩⟩⟩⟩⟩) ?_
    intro β
    rintro _ _ ⟨rfl, rfl⟩ _ _ ⟨rfl, rfl⟩ _ _ ⟨rfl, rfl⟩ _ _ ⟨rfl, rfl⟩ _ _ ⟨rfl, rfl⟩ _ _ ⟨rfl, rfl⟩ _ _ ⟨rfl, rfl⟩ _ _ ⟨rfl, rfl⟩ _ _ ⟨rfl, rfl⟩ _ _ ⟨rfl, rfl⟩ _ _ ⟨rfl, rfl⟩ _ _ ⟨rfl, rfl⟩ _ _ ⟨rfl, rfl⟩
    refine wl_norm (e' := [(0, _), (5, _), (6, _), (23, _), (24, _), (29, _)]) (.cons rfl (.cons rfl (.cons rfl (.cons rfl (.cons rfl (.cons rfl (.nil _))))))) (by dsimp only [cond_false, cond_true, List.nil_append, List.cons_append]) ?_
    refine wl_det rfl rfl rfl (op_fn Try.func50 rfl rfl rfl (has_any _ (Sl.lab 10 rfl (by unfold maxLen; (try simp only [List.length_append, List.length_singleton]); omega)))) ?_
    refine wl_det rfl rfl rfl (op_assign rfl) ?_
    refine wl_det rfl rfl rfl (op_assign rfl) ?_
    refine wl_nil ?_
    refine st_tn ?_
    refine w_seq ?_
    refine w_seq ?_
    refine w_cutL [(33, .bool (decide ((x.f ∈ out ↔ x.t ∈ out))))] [0, 5, 6, 7] [10] rfl (fun K' hK => ?_) ?_
    · -- cut r6
      refine w_region ?_
      refine wl_det rfl rfl rfl (op_move rfl) ?_
      refine wl_det rfl rfl rfl (op_move rfl) ?_
      refine wl_det rfl rfl rfl (op_eqB rfl rfl Try.underlying4) ?_
      refine wl_nil ?_
      refine st_tn ?_
      exact cut_done1 [10] hK rfl (by by_cases h1 : x.f ∈ out <;> by_cases h2 : x.t ∈ out <;> simp [h1, h2]) (by rfl) rfl rfl
    · -- behind r6
      show W _ _ _ _ _ [(33, _), (0, _), (5, _), (6, _), (7, _)] [(10, _)] _
      refine w_cond_d rfl (fun hc33 => ?_) (fun hc33 => ?_)
      · -- c33.t
        refine w_exit ?_
        refine st_te ?_
        refine st_be ?_
        refine st_tn ?_
        refine w_region ?_
        refine wl_det rfl rfl rfl (op_move rfl) ?_
        refine wl_det rfl rfl rfl (op_add' rfl rfl (by omega)) ?_
        refine wl_det rfl rfl rfl (op_assign rfl) ?_
        refine wl_nil ?_
        refine st_roundQ (x := (i, out, a_out, c_out)) ((i + 1, _, _, _)) [10] rfl (rfl) (.cons rfl (.cons rfl (.nil _))) (.cons rfl (.nil _)) (by
            try dsimp only
            refine ⟨by omega, hP, fun c hc => ?_⟩
            rw [take_snoc hx] at hc
            rcases List.mem_append.1 hc with hc | hc
            · exact hall c hc
            · rw [List.mem_singleton] at hc; subst hc; exact hc33) (by
            try dsimp only
            omega) 
      · -- c33.f
        refine w_skip ?_
        refine st_tn ?_
        refine w_seq ?_
        refine w_seq ?_
        refine w_region ?_
        refine wl_det rfl rfl rfl (op_move rfl) ?_
        refine wl_nil ?_
        refine st_tn ?_
        refine w_cond_d rfl (fun hc34 => ?_) (fun hc34 => ?_)
        · -- c34.t
          have hP2 : PartC l n (out ++ [x.t]) := hP.add (fun h => hc33 ⟨fun _ => h, fun _ => hc34⟩) ((compX_closed l n x hxl).1 (hP.sub _ hc34))
          refine w_region ?_
          refine wl_det rfl rfl rfl (op_move rfl) ?_
          refine wl_det rfl rfl rfl (op_move rfl) ?_
          refine wl_det rfl rfl rfl (op_move rfl) ?_
          refine wl_det rfl rfl rfl (op_idx rfl rfl tS24r (Sl.ent (by first | exact Sl.app (by assumption) _ | exact Sl.app (Sl.app (by assumption) _) _)) (by omega)) ?_
          refine wl_det rfl rfl rfl (op_fieldAddr (off := 1) rfl tF34_1r) ?_
          refine wl_det rfl rfl rfl (op_ldxf rfl tO3r (by first | exact Sl.app (by assumption) _ | exact Sl.app (Sl.app (by assumption) _) _) (by assumption) (by rfl)) ?_
          refine wl_op [] rfl rfl rfl rfl (op_buildSlice (enc := SL.encZ) (l := [_]) (lab := 41) tL26_1r rfl rfl (fun _ => rfl) rfl) ?_
          rintro _ _ ⟨a41, c41, rfl, rfl⟩
          refine wl_op [10] rfl rfl rfl rfl (op_append (lab := 10) (lab' := 42) rfl rfl tP26r SL.enc1Z (Sl.lab 41 rfl (by simp [maxLen])) (by simp; omega) (by simp; omega)) ?_
          rintro _ _ ⟨a42, c42, rfl, rfl⟩
          refine wl_det rfl rfl rfl (op_assign rfl) ?_
          refine wl_nil ?_
          refine st_tn ?_
          refine w_region ?_
          refine wl_det rfl rfl rfl (op_assign rfl) ?_
          refine wl_nil ?_
          refine st_bn ?_
          refine st_tn ?_
          refine w_region ?_
          refine wl_det rfl rfl rfl (op_move rfl) ?_
          refine wl_det rfl rfl rfl (op_add' rfl rfl (by omega)) ?_
          refine wl_det rfl rfl rfl (op_assign rfl) ?_
          refine wl_nil ?_
          refine st_roundQ (x := (i, out, a_out, c_out)) ((0, _, _, _)) [42] rfl (rfl) (.cons rfl (.cons rfl (.nil _))) (.cons rfl (.nil _)) (by
              try dsimp only
              exact ⟨Nat.zero_le _, hP2, by simp⟩) (by
              try dsimp only
              have h1 := hP2.le; rw [List.length_append, List.length_singleton] at h1 ⊢; have := mu_lt (A := 1 + 2 * l.length - out.length) (B := 1 + 2 * l.length - (out.length + 1)) (L := l.length) (by omega); omega) 
        · -- c34.f
          have hxt : x.t ∈ out := Classical.byContradiction fun h => hc33 ⟨fun h' => absurd h' hc34, fun h' => absurd h' h⟩
          have hP2 : PartC l n (out ++ [x.f]) := hP.add hc34 ((compX_closed l n x hxl).2 (hP.sub _ hxt))
          refine w_region ?_
          refine wl_det rfl rfl rfl (op_move rfl) ?_
          refine wl_det rfl rfl rfl (op_move rfl) ?_
          refine wl_det rfl rfl rfl (op_move rfl) ?_
          refine wl_det rfl rfl rfl (op_idx rfl rfl tS24r (Sl.ent (by first | exact Sl.app (by assumption) _ | exact Sl.app (Sl.app (by assumption) _) _)) (by omega)) ?_
          refine wl_det rfl rfl rfl (op_fieldAddr (off := 0) rfl tF34_0r) ?_
          refine wl_det rfl rfl rfl (op_ldxf rfl tO3r (by first | exact Sl.app (by assumption) _ | exact Sl.app (Sl.app (by assumption) _) _) (by assumption) (by rfl)) ?_
          refine wl_op [] rfl rfl rfl rfl (op_buildSlice (enc := SL.encZ) (l := [_]) (lab := 49) tL26_1r rfl rfl (fun _ => rfl) rfl) ?_
          rintro _ _ ⟨a49, c49, rfl, rfl⟩
          refine wl_op [10] rfl rfl rfl rfl (op_append (lab := 10) (lab' := 50) rfl rfl tP26r SL.enc1Z (Sl.lab 49 rfl (by simp [maxLen])) (by simp; omega) (by simp; omega)) ?_
          rintro _ _ ⟨a50, c50, rfl, rfl⟩
          refine wl_det rfl rfl rfl (op_assign rfl) ?_
          refine wl_nil ?_
          refine st_tn ?_
          refine w_region ?_
          refine wl_det rfl rfl rfl (op_assign rfl) ?_
          refine wl_nil ?_
          refine st_bn ?_
          refine st_tn ?_
          refine w_region ?_
          refine wl_det rfl rfl rfl (op_move rfl) ?_
          refine wl_det rfl rfl rfl (op_add' rfl rfl (by omega)) ?_
          refine wl_det rfl rfl rfl (op_assign rfl) ?_
          refine wl_nil ?_
          refine st_roundQ (x := (i, out, a_out, c_out)) ((0, _, _, _)) [50] rfl (rfl) (.cons rfl (.cons rfl (.nil _))) (.cons rfl (.nil _)) (by
              try dsimp only
              exact ⟨Nat.zero_le _, hP2, by simp⟩) (by
              try dsimp only
              have h1 := hP2.le; rw [List.length_append, List.length_singleton] at h1 ⊢; have := mu_lt (A := 1 + 2 * l.length - out.length) (B := 1 + 2 * l.length - (out.length + 1)) (L := l.length) (by omega); omega) 
  · -- c14.f
    refine w_exit ?_
    refine st_te ?_
    refine st_te ?_
    refine st_be ?_
    refine st_tn ?_
    refine w_seq ?_
    rw [take_all (by omega)] at hall
    have hpl := hP.le
    refine w_region ?_
    refine wl_det rfl rfl rfl (op_move rfl) ?_
    refine wl_op [] rfl rfl rfl rfl (op_fn Try.func57 rfl rfl rfl (rsorted_any 52 (Sl.lab 10 rfl (by unfold maxLen; omega)) (by omega))) ?_
    rintro _ _ ⟨S, a52, c52, hss, hsm, rfl, rfl⟩
    refine wl_det rfl rfl rfl (op_assign rfl) ?_
    refine wl_nil ?_
    refine st_tn ?_
    refine w_ret ?_
    refine st_ret (vs := [_]) [52] Try.results42 ⟨rfl, trivial⟩ rfl ?_
    refine ⟨[(lab, _)], rfl, ?_⟩
    exact ⟨S, _, _, hss, fun x => (hsm x).trans ⟨hP.sub x, fun h => compX_least (P := (· ∈ out)) hall hP.has x h⟩, rfl, rfl⟩

theorem within_own {l : List Con} {a : Int} {S : List Int} (h : ∀ x, x ∈ S ↔ x ∈ compX l a) : (l.filter fun c => decide (c.f ∈ S)) = ownL l a := by
  unfold ownL; exact List.filter_congr fun c _ => by rw [decide_eq_decide]; exact h c.f
theorem withinO_any {σ : World} {F : List Res} {a b : Option Addr} {c d : Nat} {l : List Con} {C : List Int} {x : Int} (lab : Nat) (h : Sl σ F encC 3 (.slice a l.length c) l) (k : Sl σ F SL.encZ 1 (.slice b C.length d) C) (hl : l.length ≤ 1048576) (hC : ∀ q, q ∈ C ↔ q ∈ compX l x) :
      FnT Try.prog σ F 41 [.slice a l.length c, .slice b C.length d] [] (fun u ρ => ∃ a c, u = .slice a (ownL l x).length c ∧ ρ = [(lab, slW 34 encC 3 (.slice a (ownL l x).length c) (ownL l x))]) := by
  rw [← within_own hC]; exact within_any lab h k hl
set_option maxHeartbeats 4000000 in
set_option maxRecDepth 100000 in
theorem rdist_any {σ : World} {F : List Res} {a : Option Addr} {c : Nat} {l : List Con} (x y : Int) (h : Sl σ F encC 3 (.slice a l.length c) l) (hl : Small l) (hb : InB l) :
    FnT Try.prog σ F 23 [.slice a l.length c, .int .i64 x, .int .i64 y] [] (fun u ρ => u = .tuple #[.int .i64 (distR l x y).1, .int .i64 (distR l x y).2] ∧ ρ = []) := by
  refine fn_of 72 Try.func23 rfl Try.ntmps23 rfl ?_
  have hle := h.i64
  have hl2 := hl.2
  have hnl := len_nodes l
  have hnd := (nodes_ss l).nodup
  have hos := own_small (a := x) hl
  have hoi := own_inb (a := x) hb
  have hol : (ownL l x).length ≤ l.length := List.length_filter_le _ _
  refine w_seq ?_
  refine w_region ?_
  refine wl_det rfl rfl rfl (op_assign rfl) ?_
  refine wl_det rfl rfl rfl (op_assign rfl) ?_
  refine wl_nil ?_
  refine st_tn ?_
  refine w_seq ?_
  refine w_region ?_
  refine wl_det rfl rfl rfl (op_move rfl) ?_
  refine wl_op [] rfl rfl rfl rfl (op_fn Try.func32 rfl rfl rfl (rnodes_any 14 (by first | exact Sl.app (by assumption) _ | exact Sl.app (Sl.app (by assumption) _) _) (by assumption) (by omega))) ?_
  rintro _ _ ⟨a14, c14, rfl, rfl⟩
  refine wl_det rfl rfl rfl (op_assign rfl) ?_
  refine wl_nil ?_
  refine st_tn ?_
  refine w_seq ?_
  refine w_seq ?_
  refine w_cutL [(24, .bool (decide (¬ (x ∈ nodes l ∧ y ∈ nodes l))))] [0, 1, 2, 8] [14] rfl (fun K' hK => ?_) ?_
  · -- cut r2
    refine w_region ?_
    refine wl_det rfl rfl rfl (op_move rfl) ?_
    refine wl_det rfl rfl rfl (op_move rfl) ?_
    refine wl_det rfl rfl rfl (op_fn Try.func50 rfl rfl rfl (has_any _ (Sl.lab 14 rfl (by unfold maxLen; omega)))) ?_
    refine wl_det rfl rfl rfl (op_not_d rfl) ?_
    refine wl_det rfl rfl rfl (op_move rfl) ?_
    refine wl_gsplit (t := 19) rfl (fun hg19 => ?_) (fun hg19 => ?_)
    · -- 19 is True
      refine wl_unwanted rfl rfl rfl rfl rfl rfl rfl rfl ?_
      refine wl_unwanted rfl rfl rfl rfl rfl rfl rfl rfl ?_
      refine wl_unwanted rfl rfl rfl rfl rfl rfl rfl rfl ?_
      refine wl_unwanted rfl rfl rfl rfl rfl rfl rfl rfl ?_
      refine wl_det rfl rfl rfl (op_pick_t rfl rfl) ?_
      refine wl_nil ?_
      refine st_tn ?_
      exact cut_done1 [14] hK rfl (by by_cases h1 : x ∈ nodes l <;> by_cases h2 : y ∈ nodes l <;> simp_all) (by rfl) rfl rfl
    · -- 19 is False
      refine wl_wanted_det rfl rfl rfl rfl rfl rfl rfl (op_move rfl) ?_
      refine wl_wanted_det rfl rfl rfl rfl rfl rfl rfl (op_move rfl) ?_
      refine wl_wanted_det rfl rfl rfl rfl rfl rfl rfl (op_fn Try.func50 rfl rfl rfl (has_any _ (Sl.lab 14 rfl (by unfold maxLen; omega)))) ?_
      refine wl_wanted_det rfl rfl rfl rfl rfl rfl rfl (op_not_d rfl) ?_
      refine wl_det rfl rfl rfl (op_pick_f rfl rfl) ?_
      refine wl_nil ?_
      refine st_tn ?_
      exact cut_done1 [14] hK rfl (by by_cases h1 : x ∈ nodes l <;> by_cases h2 : y ∈ nodes l <;> simp_all) (by rfl) rfl rfl
  · -- behind r2
    show W _ _ _ _ _ [(24, _), (0, _), (1, _), (2, _), (8, _)] [(14, _)] _
    refine w_cond_d rfl (fun hc24 => ?_) (fun hc24 => ?_)
    · -- c24.t
      refine w_seq ?_
      refine w_region ?_
      refine wl_det rfl rfl rfl (op_assign rfl) ?_
      refine wl_det rfl rfl rfl (op_assign rfl) ?_
      refine wl_nil ?_
      refine st_tn ?_
      refine w_ret ?_
      refine st_tr ?_
      refine st_ret (vs := [_, _]) [] Try.results23 ⟨rfl, ⟨rfl, trivial⟩⟩ rfl ?_
      refine ⟨_, rfl, ?_⟩
      have : distR l x y = (0, 10) := by unfold distR; rw [if_neg hc24]
      rw [this]; exact ⟨rfl, rfl⟩
    · -- c24.f
      obtain ⟨hx, hy⟩ : x ∈ nodes l ∧ y ∈ nodes l := Classical.not_not.1 hc24
      obtain ⟨ix, hix, hnx⟩ := idxL_mem hx
      obtain ⟨iy, hiy, hny⟩ := idxL_mem hy
      have hlx := (List.getElem?_eq_some_iff.1 hnx).1
      have hly := (List.getElem?_eq_some_iff.1 hny).1
      have hcl := compX_len l x
      refine w_skip ?_
      refine st_tn ?_
      refine w_seq ?_
      refine w_seq ?_
      refine w_region ?_
      refine wl_det rfl rfl rfl (op_move rfl) ?_
      refine wl_det rfl rfl rfl (op_move rfl) ?_
      refine wl_det rfl rfl rfl (op_move rfl) ?_
      refine wl_op [] rfl rfl rfl rfl (op_fn Try.func42 rfl rfl rfl (rcomp_any 28 _ (Sl.app h _) (by omega))) ?_
      rintro _ _ ⟨s28, a28, c28, hss28, hsm28, rfl, rfl⟩
      refine wl_op [] rfl rfl rfl rfl (op_fn Try.func41 rfl rfl rfl (withinO_any (C := s28) (x := x) 29 (Sl.app h _) (Sl.lab 28 rfl (by have := Nat.le_trans (nodup_le hss28.nodup fun q hq => (hsm28 q).1 hq) hcl; unfold maxLen; omega)) (by omega) hsm28)) ?_
      rintro _ _ ⟨a29, c29, rfl, rfl⟩
      refine wl_det rfl rfl rfl (op_fn Try.func19 rfl rfl rfl (feas_any (Sl.lab 29 rfl (by unfold maxLen; omega)) (by assumption) (by assumption))) ?_
      refine wl_det rfl rfl rfl (op_not_d rfl) ?_
      refine wl_nil ?_
      refine st_tn ?_
      refine w_cond_d rfl (fun hc31 => ?_) (fun hc31 => ?_)
      · -- c31.t
        refine w_seq ?_
        refine w_region ?_
        refine wl_det rfl rfl rfl (op_assign rfl) ?_
        refine wl_det rfl rfl rfl (op_assign rfl) ?_
        refine wl_nil ?_
        refine st_tn ?_
        refine w_ret ?_
        refine st_tr ?_
        refine st_ret (vs := [_, _]) [] Try.results23 ⟨rfl, ⟨rfl, trivial⟩⟩ rfl ?_
        refine ⟨_, rfl, ?_⟩
        have : distR l x y = (0, 21) := by unfold distR; rw [if_pos ⟨hx, hy⟩, if_neg hc31]
        rw [this]; exact ⟨rfl, rfl⟩
      · -- c31.f
        have hF : Feas (ownL l x) := Classical.not_not.1 hc31
        refine w_skip ?_
        refine st_tn ?_
        refine w_seq ?_
        refine w_drawW (fun β => [⟨32, [], [], [], noW (_), false, [], []⟩, ⟨33, [0], [], [], noW (_), false, [], []⟩, ⟨34, [1], [], [], fun w => DetW _ _, false, [], []⟩, ⟨35, [], [], [], noW (_), false, [], []⟩, ⟨36, [3], [], [], noW (_), false, [], []⟩, ⟨37, [4], [], [], fun w => DetW _ _, false, [], []⟩, ⟨9, [2], [], [], noW (_), false, [], []⟩]) [] [8] [⟨32, [], [], false, [], []⟩, ⟨33, [0], [], false, [], []⟩, ⟨34, [1], [], false, [], []⟩, ⟨35, [], [], false, [], []⟩, ⟨36, [3], [], false, [], []⟩, ⟨37, [4], [], false, [], []⟩, ⟨9, [2], [], false, [], []⟩] [[], [], [], [], [], [], [2]] [[], [], [], [], [], [], []] tMixr (fun _ => by rfl) (fun _ => by rfl) (by kernel_rfl) (by kernel_rfl) (by rfl) (by rfl)
            (fun β => ⟨.p rfl (by intro X; exact op_move rfl),
            ⟨.p rfl (by intro X; rintro _ _ ⟨rfl, rfl⟩; exact op_lenT rfl tS26r (Sl.ent (Sl.lab 14 rfl (by unfold maxLen; omega)))),
            ⟨.px rfl (by intro X; rintro _ _ ⟨rfl, rfl⟩; refine OpT.mono (op_makeSlice (enc := SL.encZ) (a0 := 0) (lab := 34) rfl rfl tM26r (fun _ => rfl) rfl rfl (by omega) (by unfold maxLen; omega)) ?_; rintro _ _ ⟨a34, c34, rfl, rfl⟩; obtain ⟨w, rfl, rfl⟩ : ∃ w : Wt, w.a = a34 ∧ w.c = c34 := ⟨{ a := a34, c := c34 }, rfl, rfl⟩; exact ⟨w, rfl, rfl⟩),
            ⟨.p rfl (by intro X; exact op_move rfl),
            ⟨.p rfl (by intro X; rintro _ _ ⟨rfl, rfl⟩; exact op_lenT rfl tS26r (Sl.ent (Sl.lab 14 rfl (by unfold maxLen; omega)))),
            ⟨.px rfl (by intro X; rintro _ _ ⟨rfl, rfl⟩; refine OpT.mono (op_makeSlice (enc := encB) (a0 := false) (lab := 37) rfl rfl tM84r (fun _ => rfl) rfl rfl (by omega) (by unfold maxLen; omega)) ?_; rintro _ _ ⟨a37, c37, rfl, rfl⟩; obtain ⟨w, rfl, rfl⟩ : ∃ w : Wt, w.a = a37 ∧ w.c = c37 := ⟨{ a := a37, c := c37 }, rfl, rfl⟩; exact ⟨w, rfl, rfl⟩),
            ⟨.p rfl (by intro X; rintro _ _ ⟨rfl, rfl⟩; exact op_assign rfl),
            trivial⟩⟩⟩⟩⟩⟩⟩)
            (fun β β' => ⟨fun _ => by rfl, ⟨fun _ => by rfl, ⟨fun _ => by rfl, ⟨fun _ => by rfl, ⟨fun _ => by rfl, ⟨fun _ => by rfl, ⟨fun h => by first | rfl | (simp only [h 2 (by decide)]), trivial⟩⟩⟩⟩⟩⟩⟩) ?_
        intro β
        rintro _ _ ⟨rfl, rfl⟩ _ _ ⟨rfl, rfl⟩ _ _ ⟨rfl, rfl⟩ _ _ ⟨rfl, rfl⟩ _ _ ⟨rfl, rfl⟩ _ _ ⟨rfl, rfl⟩ _ _ ⟨rfl, rfl⟩
        generalize (β 2).a = a34
        generalize (β 2).c = c34
        generalize (β 5).a = a37
        generalize (β 5).c = c37
        refine wl_norm (e' := [(0, _), (1, _), (2, _), (8, _), (9, _), (37, _)]) (.cons rfl (.cons rfl (.cons rfl (.cons rfl (.cons rfl (.cons rfl (.nil _))))))) (by dsimp only [cond_false, cond_true, List.nil_append, List.cons_append]) ?_
        refine wl_det rfl rfl rfl (op_assign rfl) ?_
        refine wl_nil ?_
        refine st_tn ?_
        refine w_seq ?_
        simp only [List.length_replicate]
        refine w_region ?_
        refine wl_det rfl rfl rfl (op_move rfl) ?_
        refine wl_det rfl rfl rfl (op_move rfl) ?_
        refine wl_det rfl rfl rfl (op_move rfl) ?_
        refine wl_op [] rfl rfl rfl rfl (op_fn Try.func42 rfl rfl rfl (rcomp_any 41 _ (Sl.app h _) (by omega))) ?_
        rintro _ _ ⟨s41, a41, c41, hss41, hsm41, rfl, rfl⟩
        refine wl_op [] rfl rfl rfl rfl (op_fn Try.func41 rfl rfl rfl (withinO_any (C := s41) (x := x) 42 (Sl.app h _) (Sl.lab 41 rfl (by have := Nat.le_trans (nodup_le hss41.nodup fun q hq => (hsm41 q).1 hq) hcl; unfold maxLen; omega)) (by omega) hsm41)) ?_
        rintro _ _ ⟨a42, c42, rfl, rfl⟩
        refine wl_det rfl rfl rfl (op_assign rfl) ?_
        refine wl_nil ?_
        refine st_tn ?_
        refine w_seq ?_
        have hr0 : (List.replicate (nodes l).length false)[ix]? = some false := by rw [List.getElem?_replicate, if_pos hlx]
        have hrl : (List.replicate (nodes l).length false).length = (nodes l).length := List.length_replicate
        refine w_region ?_
        refine wl_det rfl rfl rfl (op_move rfl) ?_
        refine wl_det rfl rfl rfl (op_move rfl) ?_
        refine wl_det rfl rfl rfl (op_move rfl) ?_
        refine wl_det rfl rfl rfl (op_val (v' := .int .i64 (ix : Nat)) (by rw [hix]) (op_fn Try.func51 rfl rfl rfl (rindex_any _ (Sl.lab 14 rfl (by unfold maxLen; omega))))) ?_
        refine wl_det rfl rfl rfl (op_idx rfl rfl tS84r (Sl.ent (Sl.lab 37 rfl (by unfold maxLen; omega))) (by omega)) ?_
        refine wl_op0 [37] rfl rfl rfl (op_storeX (lab := 37) (j := 0) rfl rfl tO4r rfl rfl (by rfl) (by first | assumption | (simp [*]; done)) (Nat.le_of_ble_eq_true rfl) (by rfl)) ?_
        rintro _ _ ⟨rfl, rfl⟩
        refine wl_nil ?_
        refine st_tn ?_
        refine w_seq ?_
        refine w_seq ?_
        have hH0 : (List.replicate (nodes l).length false).set ix true = hasV (nodes l) (zeroF [x]) := by
          apply List.ext_getElem?
          intro j
          unfold hasV
          rw [List.getElem?_set, List.getElem?_map, hrl]
          by_cases hj : j < (nodes l).length
          · rw [List.getElem?_eq_getElem hj, List.getElem?_replicate, if_pos hj]
            by_cases he : ix = j
            · subst he; rw [if_pos rfl, if_pos hj]
              have := (List.getElem?_eq_some_iff.1 hnx).2
              simp [zeroF, this]
            · rw [if_neg he]
              have hne : (nodes l)[j] ≠ x := fun e => by
                have h1 := (List.getElem?_eq_some_iff.1 hnx).2
                rcases Nat.lt_or_gt_of_ne he with hlt | hlt
                · exact List.pairwise_iff_getElem.1 hnd ix j hlx hj hlt (by rw [h1, e])
                · exact List.pairwise_iff_getElem.1 hnd j ix hj hlx hlt (by rw [h1, e])
              simp [zeroF, hne]
          · have h1 : (List.replicate (nodes l).length false)[j]? = none := List.getElem?_eq_none (by rw [hrl]; omega)
            have h2 : (nodes l)[j]? = none := List.getElem?_eq_none (by omega)
            rw [if_neg (by omega), h1, h2]; rfl
        rw [hH0, val_zero (nodes l) [x]]
        refine w_region ?_
        refine wl_det rfl rfl rfl (op_assign rfl) ?_
        refine wl_nil ?_
        refine st_tn ?_
        refine w_block ?_
        refine w_loopQ (X := Nat × List Int × List Bool) (fun z => z.1 ≤ (nodes l).length ∧ z.2.1 = valV (nodes l) (RF (ownL l x) (zeroF [x]) z.1) ∧ z.2.2 = hasV (nodes l) (RF (ownL l x) (zeroF [x]) z.1)) (fun z => [(12, .int .i64 (z.1))]) (fun z => [(34, slW 3 SL.encZ 1 (.slice a34 ((nodes l).length) c34) (z.2.1)), (37, slW 4 encB 1 (.slice a37 ((nodes l).length) c37) (z.2.2))]) (fun z => (nodes l).length - z.1) ((0, valV (nodes l) (zeroF [x]), hasV (nodes l) (zeroF [x]))) [(2, _), (8, _), (9, _), (10, _), (11, _)] [(14, _), (28, _), (29, _), (41, _), (42, _)] [34, 37, 14, 28, 29, 41, 42] rfl (rfl) (.cons rfl (.nil _)) (.cons rfl (.cons rfl (.cons rfl (.cons rfl (.cons rfl (.nil _)))))) (by
            try dsimp only
            exact ⟨Nat.zero_le _, rfl, rfl⟩) ?_
        rintro ⟨i, V, H⟩ ⟨hi, hV, hH⟩
        refine w_norm2 (by dsimp only [List.cons_append, List.nil_append]) (by dsimp only [List.cons_append, List.nil_append]) ?_
        try dsimp only at hi hV hH ⊢
        refine w_seq ?_
        refine w_seq ?_
        refine w_region ?_
        refine wl_det rfl rfl rfl (op_move rfl) ?_
        refine wl_det rfl rfl rfl (op_move rfl) ?_
        refine wl_det rfl rfl rfl (op_lenT rfl tS26r (Sl.ent (Sl.lab 14 rfl (by unfold maxLen; omega)))) ?_
        refine wl_det rfl rfl rfl (op_lss rfl rfl) ?_
        refine wl_nil ?_
        refine st_tn ?_
        refine w_cond_d rfl (fun hc51 => ?_) (fun hc51 => ?_)
        · -- c51.t
          subst hV
          subst hH
          refine w_skip ?_
          refine st_tn ?_
          refine w_seq ?_
          refine w_block ?_
          refine w_region ?_
          refine wl_det rfl rfl rfl (op_move rfl) ?_
          refine wl_det rfl rfl rfl (op_move rfl) ?_
          refine wl_det rfl rfl rfl (op_move rfl) ?_
          refine wl_det rfl rfl rfl (op_move rfl) ?_
          refine wl_op [34,37] rfl rfl rfl rfl (op_fn Try.func52 rfl rfl rfl (rrelax_l 34 37 (RF (ownL l x) (zeroF [x]) i) (4194304 * i) (Sl.lab 42 rfl (by unfold maxLen; omega)) (Sl.lab 14 rfl (by unfold maxLen; omega)) hos hnd (fun c hc => nodes_in c (mem_own.1 hc).1) (by omega) (bdF_RF (bd_zero _) hos i) (by omega))) ?_
          rintro _ _ ⟨rfl, rfl⟩
          refine wl_nil ?_
          refine st_bn ?_
          refine st_tn ?_
          refine w_region ?_
          refine wl_det rfl rfl rfl (op_move rfl) ?_
          refine wl_det rfl rfl rfl (op_add' rfl rfl (by omega)) ?_
          refine wl_det rfl rfl rfl (op_assign rfl) ?_
          refine wl_nil ?_
          refine st_roundQ (x := (i, valV (nodes l) (RF (ownL l x) (zeroF [x]) i), hasV (nodes l) (RF (ownL l x) (zeroF [x]) i))) ((i + 1, valV (nodes l) (RF (ownL l x) (zeroF [x]) (i + 1)), hasV (nodes l) (RF (ownL l x) (zeroF [x]) (i + 1)))) [34, 37, 14, 28, 29, 41, 42] rfl (rfl) (.cons rfl (.nil _)) (.cons rfl (.cons rfl (.cons rfl (.cons rfl (.cons rfl (.nil _)))))) (by
              try dsimp only
              exact ⟨by omega, rfl, rfl⟩) (by
              try dsimp only
              omega) 
        · -- c51.f
          refine w_exit ?_
          refine st_te ?_
          refine st_te ?_
          refine st_be ?_
          refine st_tn ?_
          refine w_seq ?_
          refine w_seq ?_
          have hi3 : i = (nodes l).length := by omega
          subst hi3
          have hHy : H[iy]? = some (disF l x y).isSome := by rw [hH]; exact get_map _ hny
          have hVy : V[iy]? = some ((disF l x y).getD 0) := by rw [hV]; exact get_map _ hny
          have hda : Value.bool (disF l x y).isSome = Value.bool (decide ((disF l x y).isSome = true)) := by cases (disF l x y).isSome <;> rfl
          have hVl : V.length = (nodes l).length := by rw [hV, valV_len]
          have hHl : H.length = (nodes l).length := by rw [hH, hasV_len]
          refine w_region ?_
          refine wl_det rfl rfl rfl (op_move rfl) ?_
          refine wl_det rfl rfl rfl (op_move rfl) ?_
          refine wl_det rfl rfl rfl (op_move rfl) ?_
          refine wl_det rfl rfl rfl (op_val (v' := .int .i64 (iy : Nat)) (by rw [hiy]) (op_fn Try.func51 rfl rfl rfl (rindex_any _ (Sl.lab 14 rfl (by unfold maxLen; omega))))) ?_
          refine wl_det rfl rfl rfl (op_idx rfl rfl tS84r (Sl.ent (Sl.lab 37 rfl (by unfold maxLen; omega))) (by omega)) ?_
          refine wl_det rfl rfl rfl (op_val (v' := .bool (decide ((disF l x y).isSome = true))) (by exact hda) (op_ldx rfl tO4r (Sl.lab 37 rfl (by unfold maxLen; omega)) (by assumption) (by rfl))) ?_
          refine wl_det rfl rfl rfl (op_not_d rfl) ?_
          refine wl_nil ?_
          refine st_tn ?_
          refine w_cond_d rfl (fun hc65 => ?_) (fun hc65 => ?_)
          · -- c65.t
            refine w_seq ?_
            refine w_region ?_
            refine wl_det rfl rfl rfl (op_assign rfl) ?_
            refine wl_det rfl rfl rfl (op_assign rfl) ?_
            refine wl_nil ?_
            refine st_tn ?_
            refine w_ret ?_
            refine st_tr ?_
            refine st_ret (vs := [_, _]) [] Try.results23 ⟨rfl, ⟨rfl, trivial⟩⟩ rfl ?_
            refine ⟨_, rfl, ?_⟩
            have hn : disF l x y = none := by simpa using hc65
            have : distR l x y = (0, 22) := by unfold distR; rw [if_pos ⟨hx, hy⟩, if_pos hF, hn]
            rw [this]; exact ⟨rfl, rfl⟩
          · -- c65.f
            refine w_skip ?_
            refine st_tn ?_
            refine w_seq ?_
            refine w_region ?_
            refine wl_det rfl rfl rfl (op_move rfl) ?_
            refine wl_det rfl rfl rfl (op_move rfl) ?_
            refine wl_det rfl rfl rfl (op_move rfl) ?_
            refine wl_det rfl rfl rfl (op_val (v' := .int .i64 (iy : Nat)) (by rw [hiy]) (op_fn Try.func51 rfl rfl rfl (rindex_any _ (Sl.lab 14 rfl (by unfold maxLen; omega))))) ?_
            refine wl_det rfl rfl rfl (op_idx rfl rfl tS26r (Sl.ent (Sl.lab 34 rfl (by unfold maxLen; omega))) (by omega)) ?_
            refine wl_det rfl rfl rfl (op_ldx rfl tO3r (Sl.lab 34 rfl (by unfold maxLen; omega)) (by assumption) (by rfl)) ?_
            refine wl_det rfl rfl rfl (op_assign rfl) ?_
            refine wl_det rfl rfl rfl (op_assign rfl) ?_
            refine wl_nil ?_
            refine st_tn ?_
            refine w_ret ?_
            refine st_ret (vs := [_, _]) [] Try.results23 ⟨rfl, ⟨rfl, trivial⟩⟩ rfl ?_
            refine ⟨_, rfl, ?_⟩
            obtain ⟨q, hq⟩ := Option.isSome_iff_exists.1 (Classical.not_not.1 hc65)
            have : distR l x y = (q, 0) := by unfold distR; rw [if_pos ⟨hx, hy⟩, if_pos hF, hq]
            rw [this, hq]; exact ⟨rfl, rfl⟩

set_option maxHeartbeats 2000000 in
set_option maxRecDepth 100000 in
theorem lawDistances_any {σ : World} {F : List Res} {a : Option Addr} {c : Nat} {s : List Arc} (x y : Int) (h : Sl σ F encA 3 (.slice a s.length c) s) (hs : OkA s) :
    FnT Try.prog σ F 4 [.slice a s.length c, .int .i64 x, .int .i64 y] [] (fun u ρ => u = .bool true ∧ ρ = []) := by
  refine fn_of 38 Try.func4 rfl Try.ntmps4 rfl ?_
  have hle := h.i64
  obtain ⟨hfew, hsm, hin, hno, hbn⟩ := sys_ok hs
  obtain ⟨l, hl⟩ : ∃ l, l = sysL s := ⟨_, rfl⟩
  rw [← hl] at hfew hsm hin hno hbn
  refine w_seq ?_
  refine w_region ?_
  refine wl_det rfl rfl rfl (op_assign rfl) ?_
  refine wl_nil ?_
  refine st_tn ?_
  refine w_seq ?_
  refine w_seq ?_
  refine w_region ?_
  refine wl_det rfl rfl rfl (op_fn Try.func15 rfl rfl rfl (known_any)) ?_
  refine wl_det rfl rfl rfl (op_not_t rfl) ?_
  refine wl_nil ?_
  refine st_tn ?_
  refine w_cond_f (rfl) ?_
  refine w_skip ?_
  refine st_tn ?_
  refine w_seq ?_
  refine w_region ?_
  refine wl_det rfl rfl rfl (op_move rfl) ?_
  refine wl_op [] rfl rfl rfl rfl (op_fn Try.func16 rfl rfl rfl (sys_any 15 (by first | exact Sl.app (by assumption) _ | exact Sl.app (Sl.app (by assumption) _) _) (by assumption))) ?_
  rintro _ _ ⟨a15, c15, rfl, rfl⟩
  refine wl_det rfl rfl rfl (op_assign rfl) ?_
  refine wl_nil ?_
  refine st_tn ?_
  refine w_seq ?_
  rw [← hl]
  clear hl
  refine w_region ?_
  refine wl_det rfl rfl rfl (op_move rfl) ?_
  refine wl_det rfl rfl rfl (op_move rfl) ?_
  refine wl_det rfl rfl rfl (op_move rfl) ?_
  refine wl_det rfl rfl rfl (op_fn Try.func22 rfl rfl rfl (dist_any _ _ (Sl.lab 15 rfl (by unfold maxLen; omega)) (by assumption) (by assumption))) ?_
  refine wl_det rfl rfl rfl (op_move rfl) ?_
  refine wl_det rfl rfl rfl (op_extract rfl rfl) ?_
  refine wl_det rfl rfl rfl (op_extract rfl rfl) ?_
  refine wl_det rfl rfl rfl (op_assign rfl) ?_
  refine wl_det rfl rfl rfl (op_assign rfl) ?_
  refine wl_nil ?_
  refine st_tn ?_
  refine w_seq ?_
  refine w_region ?_
  refine wl_det rfl rfl rfl (op_move rfl) ?_
  refine wl_det rfl rfl rfl (op_move rfl) ?_
  refine wl_det rfl rfl rfl (op_move rfl) ?_
  refine wl_det rfl rfl rfl (op_fn Try.func23 rfl rfl rfl (rdist_any _ _ (Sl.lab 15 rfl (by unfold maxLen; omega)) (by assumption) (by assumption))) ?_
  refine wl_det rfl rfl rfl (op_move rfl) ?_
  refine wl_det rfl rfl rfl (op_extract rfl rfl) ?_
  refine wl_det rfl rfl rfl (op_extract rfl rfl) ?_
  refine wl_det rfl rfl rfl (op_assign rfl) ?_
  refine wl_det rfl rfl rfl (op_assign rfl) ?_
  refine wl_nil ?_
  refine st_tn ?_
  refine w_seq ?_
  refine w_region ?_
  refine wl_det rfl rfl rfl (op_move rfl) ?_
  refine wl_det rfl rfl rfl (op_move rfl) ?_
  refine wl_det rfl rfl rfl (op_val (v' := .bool true) (by rw [dist_eq]; simp) (op_eql rfl rfl)) ?_
  refine wl_det rfl rfl rfl (op_move rfl) ?_
  refine wl_wanted_det rfl rfl rfl rfl rfl rfl rfl (op_move rfl) ?_
  refine wl_wanted_det rfl rfl rfl rfl rfl rfl rfl (op_move rfl) ?_
  refine wl_wanted_det rfl rfl rfl rfl rfl rfl rfl (op_val (v' := .bool true) (by rw [dist_eq]; simp) (op_eql rfl rfl)) ?_
  refine wl_det rfl rfl rfl (op_pick_t rfl rfl) ?_
  refine wl_det rfl rfl rfl (op_assign rfl) ?_
  refine wl_nil ?_
  refine st_tn ?_
  refine w_ret ?_
  refine st_ret (vs := [_]) [] Try.results4 ⟨rfl, trivial⟩ rfl ?_
  refine ⟨_, rfl, ?_⟩
  exact ⟨rfl, rfl⟩

end Go.Proofs.Ytgdjnjbipemdcaa
