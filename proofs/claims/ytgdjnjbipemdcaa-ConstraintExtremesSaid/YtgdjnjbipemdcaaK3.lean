/- Contracts: the search for least lengths (layer 9). Conditions: none. -/
import Derived.Test.YtgdjnjbipemdcaaK2
namespace Go.Proofs.Ytgdjnjbipemdcaa
open Go Go.SL Go.RowKit Go.ConM
set_option linter.unusedVariables false
set_option linter.unusedSimpArgs false
theorem tA34c : aggB Try.prog 34 3 = true := by kernel_rfl
theorem tF34_0c : fieldB Try.prog 34 0 0 = true := by kernel_rfl
theorem tF34_1c : fieldB Try.prog 34 1 1 = true := by kernel_rfl
theorem tF34_2c : fieldB Try.prog 34 2 2 = true := by kernel_rfl
theorem tF74_0c : fieldB Try.prog 74 0 0 = true := by kernel_rfl
theorem tF74_1c : fieldB Try.prog 74 1 1 = true := by kernel_rfl
theorem tMixc : Try.prog.follows .mixedOrders = true := by kernel_rfl
theorem tN3c : (Try.prog.info? 3).bind (·.zero) = some (Value.int .i64 0) := by kernel_rfl
theorem tN34c : (Try.prog.info? 34).bind (·.zero) = some (Value.agg #[Value.int .i64 0, Value.int .i64 0, Value.int .i64 0]) := by kernel_rfl
theorem tO24c : oneB Try.prog 24 = true := by kernel_rfl
theorem tO3c : oneB Try.prog 3 = true := by kernel_rfl
theorem tO72c : oneB Try.prog 72 = true := by kernel_rfl
theorem tO77c : oneB Try.prog 77 = true := by kernel_rfl
theorem tQ72c : mapB Try.prog 72 3 3 KZ.desc := ⟨Try.underlying72, Try.underlying3⟩
theorem tS24c : sliceB Try.prog 24 34 3 = true := by kernel_rfl
theorem tZ34c : (Try.prog.info? 34).map (·.size) = some 3 := by kernel_rfl

/-- A function value that says of indices whether they are used. -/
structure UseF (σ : World) (F : List Res) (n : Nat) (g : Nat) (fs cs : List Value) (use : Nat → Bool) : Prop where
  fn : ∃ gn, Try.prog.funcs[g]? = some gn ∧ gn.body.isSome = true ∧ (gn.name == "runtime.NumGoroutine") = false
  says : ∀ (X : List Res) (i : Nat), i < n → FnT Try.prog σ (X ++ F) g (fs ++ [.int .i64 i] ++ cs) [] (fun u ρ => u = .bool (decide (use i = true)) ∧ ρ = [])
theorem UseF.app {σ : World} {F : List Res} {n g : Nat} {fs cs : List Value} {use : Nat → Bool} (h : UseF σ F n g fs cs use) (Y : List Res) : UseF σ (Y ++ F) n g fs cs use := ⟨h.fn, fun X i hi => by rw [← List.append_assoc]; exact h.says (X ++ Y) i hi⟩
def Small (l : List Con) : Prop := (∀ c ∈ l, -4096 ≤ c.b ∧ c.b ≤ 4096) ∧ l.length ≤ 1024
set_option maxHeartbeats 2000000 in
set_option maxRecDepth 100000 in
theorem relax0 {σ : World} {F : List Res} {bl bp bu bL bB : Nat} {a : Option Addr} {c : Nat} {l : List Con} {g : Nat} {fs cs : List Value} {use : Nat → Bool} (s : St) (m : Int) (hbl : Ent σ F (At ⟨bl, 0, none⟩ [.slice a l.length c])) (h : Sl σ F encC 3 (.slice a l.length c) l)
    (hbp : Ent σ F (At ⟨bp, 0, none⟩ [.map (some bL), .map (some bB)])) (hbu : Ent σ F (At ⟨bu, 0, none⟩ [.func (.func g) fs.toArray cs.toArray])) (hu : UseF σ F l.length g fs cs use) (hl : Small l) (hs : Bd m s) (hm : 0 ≤ m ∧ m ≤ 1099511627776) :
    FnT Try.prog σ F 65 [.pointer (some ⟨bl, 0, none⟩), .pointer (some ⟨bp, 0, none⟩), .pointer (some ⟨bu, 0, none⟩)] [(501, mp KZ encVZ bL s.L), (502, mp KZ encVZ bB s.B)]
      (fun u ρ => u = .int .i64 (relax use l s).2 ∧ ρ = [(501, mp KZ encVZ bL (relax use l s).1.L), (502, mp KZ encVZ bB (relax use l s).1.B)]) := by
  refine fn_of 68 Try.func65 rfl Try.ntmps65 rfl ?_
  have hle := h.i64
  obtain ⟨hl1, hl2⟩ := hl
  obtain ⟨⟨gn, hg1, hg2, hg3⟩, hsay⟩ := hu
  refine w_seq ?_
  refine w_region ?_
  refine wl_det rfl rfl rfl (op_assign rfl) ?_
  refine wl_nil ?_
  refine st_tn ?_
  refine w_seq ?_
  refine w_region ?_
  refine wl_det rfl rfl rfl (op_assign rfl) ?_
  refine wl_nil ?_
  refine st_tn ?_
  refine w_seq ?_
  refine w_seq ?_
  refine w_region ?_
  refine wl_det rfl rfl rfl (op_load1 rfl tO24c (Ent.app hbl _)) ?_
  refine wl_det rfl rfl rfl (op_lenT rfl tS24c (Sl.ent (Sl.app h _))) ?_
  refine wl_det rfl rfl rfl (op_move rfl) ?_
  refine wl_nil ?_
  refine st_tn ?_
  refine w_block ?_
  refine w_loopQ (X := Int × Nat × List (Int × Int) × List (Int × Int)) (fun z => z.2.1 ≤ l.length ∧ relaxTo use l s z.2.1 = (⟨z.2.2.1, z.2.2.2⟩, z.1)) (fun z => [(4, .int .i64 (z.1)), (13, .int .i64 (z.2.1))]) (fun z => [(501, mp KZ encVZ bL (z.2.2.1)), (502, mp KZ encVZ bB (z.2.2.2))]) (fun z => l.length - z.2.1) ((-1, 0, s.L, s.B)) [(1, _), (2, _), (11, _), (12, _)] [] [501, 502] rfl (rfl) (.cons rfl (.cons rfl (.nil _))) (.cons rfl (.cons rfl (.cons rfl (.cons rfl (.nil _))))) (by
      try dsimp only
      exact ⟨Nat.zero_le _, rfl⟩) ?_
  rintro ⟨la, i, L, B⟩ ⟨hi, hr⟩
  refine w_norm2 (by dsimp only [List.cons_append, List.nil_append]) (by dsimp only [List.cons_append, List.nil_append]) ?_
  try dsimp only at hi hr ⊢
  refine w_seq ?_
  refine w_region ?_
  refine wl_det rfl rfl rfl (op_lss rfl rfl) ?_
  refine wl_nil ?_
  refine st_tn ?_
  refine w_seq ?_
  refine w_cond_d rfl (fun hc14 => ?_) (fun hc14 => ?_)
  · -- c14.t
    obtain ⟨x, hx⟩ := getE (l := l) (i := i) (by omega)
    have hlt := ltE hx
    have hbd := bd_relaxTo (use := use) hs hl1 i
    rw [hr] at hbd
    have hxb := hl1 x (List.mem_of_getElem? hx)
    refine w_skip ?_
    refine st_tn ?_
    refine w_seq ?_
    refine w_block ?_
    refine w_seq ?_
    refine w_region ?_
    refine wl_det rfl rfl rfl (op_move rfl) ?_
    refine wl_det rfl rfl rfl (op_idx rfl rfl tS24c (Sl.ent (Sl.app h _)) (by omega)) ?_
    refine wl_det rfl rfl rfl (op_ldxA rfl tA34c (Sl.app h _) (by assumption) (by rfl) (by rfl)) ?_
    refine wl_op [] rfl rfl rfl rfl (op_alloc (l := 6) tN34c) ?_
    rintro _ _ ⟨b6, rfl, rfl⟩
    refine wl_det rfl rfl rfl (op_assign rfl) ?_
    refine wl_op0 [6] rfl rfl rfl (op_store rfl rfl tZ34c (by rfl) (by rfl) (by exact Nat.le_of_ble_eq_true rfl)) ?_
    rintro _ _ ⟨rfl, rfl⟩
    refine wl_nil ?_
    refine st_tn ?_
    refine w_seq ?_
    by_cases hfn : lookK KZ L x.f = none
    · -- hfn+
      refine w_region ?_
      refine wl_det rfl rfl rfl (op_fieldAddr (off := 0) rfl tF74_0c) ?_
      refine wl_det rfl rfl rfl (op_load1 rfl tO72c (Ent.app (Ent.fld hbp 0) _)) ?_
      refine wl_det rfl rfl rfl (op_fieldAddr (off := 0) rfl tF34_0c) ?_
      refine wl_det rfl rfl rfl (op_load1 rfl tO3c (Ent.lab (l := 6) rfl (says_cel 0))) ?_
      refine wl_det rfl rfl rfl (op_val (v' := .tuple #[.int .i64 0, .bool false]) (by rw [hfn]; rfl) (op_lookup2 (kt := KZ) (encV := encVZ) rfl rfl tQ72c tN3c (Mr.lab 501 rfl))) ?_
      refine wl_det rfl rfl rfl (op_move rfl) ?_
      refine wl_det rfl rfl rfl (op_extract rfl rfl) ?_
      refine wl_det rfl rfl rfl (op_val (v' := .bool false) (by rfl) (op_extract rfl rfl)) ?_
      refine wl_det rfl rfl rfl (op_assign rfl) ?_
      refine wl_det rfl rfl rfl (op_assign rfl) ?_
      refine wl_nil ?_
      refine st_tn ?_
      refine w_seq ?_
      refine w_seq ?_
      refine w_region ?_
      refine wl_det rfl rfl rfl (op_move rfl) ?_
      refine wl_det rfl rfl rfl (op_not_f rfl) ?_
      refine wl_det rfl rfl rfl (op_move rfl) ?_
      refine wl_unwanted rfl rfl rfl rfl rfl rfl rfl rfl ?_
      refine wl_unwanted rfl rfl rfl rfl rfl rfl rfl rfl ?_
      refine wl_unwanted rfl rfl rfl rfl rfl rfl rfl rfl ?_
      refine wl_unwanted rfl rfl rfl rfl rfl rfl rfl rfl ?_
      refine wl_det rfl rfl rfl (op_pick_t rfl rfl) ?_
      refine wl_nil ?_
      refine st_tn ?_
      refine w_cond_t (rfl) ?_
      refine w_exit ?_
      refine st_te ?_
      refine st_be ?_
      refine st_tn ?_
      refine w_region ?_
      refine wl_det rfl rfl rfl (op_add' rfl rfl (by omega)) ?_
      refine wl_det rfl rfl rfl (op_move rfl) ?_
      refine wl_nil ?_
      refine st_roundQ (x := (la, i, L, B)) ((_, i + 1, _, _)) [501, 502] rfl (rfl) (.cons rfl (.cons rfl (.nil _))) (.cons rfl (.cons rfl (.cons rfl (.cons rfl (.nil _))))) (by
          try dsimp only
          refine ⟨by omega, ?_⟩
          rw [relaxTo_succ hx, hr]
          unfold step1
          first | rw [hfn] | rw [hav]
          try dsimp only
          try rw [if_neg hc33]
          try rw [if_pos (Classical.not_not.1 hc33)]
          try rw [htn]
          try rw [hbv]
          try dsimp only
          try rw [if_pos hc51]
          try rw [if_neg hc51]
          try rfl) (by
          try dsimp only
          omega) 
    · -- hfn-
      obtain ⟨av, hav⟩ := Option.ne_none_iff_exists'.1 hfn
      have hab := bd_look hbd hav
      refine w_region ?_
      refine wl_det rfl rfl rfl (op_fieldAddr (off := 0) rfl tF74_0c) ?_
      refine wl_det rfl rfl rfl (op_load1 rfl tO72c (Ent.app (Ent.fld hbp 0) _)) ?_
      refine wl_det rfl rfl rfl (op_fieldAddr (off := 0) rfl tF34_0c) ?_
      refine wl_det rfl rfl rfl (op_load1 rfl tO3c (Ent.lab (l := 6) rfl (says_cel 0))) ?_
      refine wl_det rfl rfl rfl (op_val (v' := .tuple #[.int .i64 av, .bool true]) (by rw [hav]; rfl) (op_lookup2 (kt := KZ) (encV := encVZ) rfl rfl tQ72c tN3c (Mr.lab 501 rfl))) ?_
      refine wl_det rfl rfl rfl (op_move rfl) ?_
      refine wl_det rfl rfl rfl (op_extract rfl rfl) ?_
      refine wl_det rfl rfl rfl (op_val (v' := .bool true) (by rfl) (op_extract rfl rfl)) ?_
      refine wl_det rfl rfl rfl (op_assign rfl) ?_
      refine wl_det rfl rfl rfl (op_assign rfl) ?_
      refine wl_nil ?_
      refine st_tn ?_
      refine w_seq ?_
      refine w_seq ?_
      refine w_region ?_
      refine wl_det rfl rfl rfl (op_move rfl) ?_
      refine wl_det rfl rfl rfl (op_not_t rfl) ?_
      refine wl_det rfl rfl rfl (op_move rfl) ?_
      refine wl_wanted_det rfl rfl rfl rfl rfl rfl rfl (op_load1 rfl tO77c (Ent.app hbu _)) ?_
      refine wl_wanted_det rfl rfl rfl rfl rfl rfl rfl (op_move rfl) ?_
      refine wl_wanted_det rfl rfl rfl rfl rfl rfl rfl (op_fnv hg1 hg2 hg3 rfl rfl (hsay _ i hlt)) ?_
      refine wl_wanted_det rfl rfl rfl rfl rfl rfl rfl (op_not_d rfl) ?_
      refine wl_det rfl rfl rfl (op_pick_f rfl rfl) ?_
      refine wl_nil ?_
      refine st_tn ?_
      refine w_cond_d rfl (fun hc33 => ?_) (fun hc33 => ?_)
      · -- c33.t
        refine w_exit ?_
        refine st_te ?_
        refine st_be ?_
        refine st_tn ?_
        refine w_region ?_
        refine wl_det rfl rfl rfl (op_add' rfl rfl (by omega)) ?_
        refine wl_det rfl rfl rfl (op_move rfl) ?_
        refine wl_nil ?_
        refine st_roundQ (x := (la, i, L, B)) ((_, i + 1, _, _)) [501, 502] rfl (rfl) (.cons rfl (.cons rfl (.nil _))) (.cons rfl (.cons rfl (.cons rfl (.cons rfl (.nil _))))) (by
            try dsimp only
            refine ⟨by omega, ?_⟩
            rw [relaxTo_succ hx, hr]
            unfold step1
            first | rw [hfn] | rw [hav]
            try dsimp only
            try rw [if_neg hc33]
            try rw [if_pos (Classical.not_not.1 hc33)]
            try rw [htn]
            try rw [hbv]
            try dsimp only
            try rw [if_pos hc51]
            try rw [if_neg hc51]
            try rfl) (by
            try dsimp only
            omega) 
      · -- c33.f
        refine w_skip ?_
        refine st_tn ?_
        refine w_seq ?_
        by_cases htn : lookK KZ L x.t = none
        · -- htn+
          refine w_region ?_
          refine wl_det rfl rfl rfl (op_fieldAddr (off := 0) rfl tF74_0c) ?_
          refine wl_det rfl rfl rfl (op_load1 rfl tO72c (Ent.app (Ent.fld hbp 0) _)) ?_
          refine wl_det rfl rfl rfl (op_fieldAddr (off := 1) rfl tF34_1c) ?_
          refine wl_det rfl rfl rfl (op_load1 rfl tO3c (Ent.lab (l := 6) rfl (says_cel 1))) ?_
          refine wl_det rfl rfl rfl (op_val (v' := .tuple #[.int .i64 0, .bool false]) (by rw [htn]; rfl) (op_lookup2 (kt := KZ) (encV := encVZ) rfl rfl tQ72c tN3c (Mr.lab 501 rfl))) ?_
          refine wl_det rfl rfl rfl (op_move rfl) ?_
          refine wl_det rfl rfl rfl (op_extract rfl rfl) ?_
          refine wl_det rfl rfl rfl (op_val (v' := .bool false) (by rfl) (op_extract rfl rfl)) ?_
          refine wl_det rfl rfl rfl (op_assign rfl) ?_
          refine wl_det rfl rfl rfl (op_assign rfl) ?_
          refine wl_nil ?_
          refine st_tn ?_
          refine w_seq ?_
          refine w_region ?_
          refine wl_det rfl rfl rfl (op_move rfl) ?_
          refine wl_det rfl rfl rfl (op_not_f rfl) ?_
          refine wl_det rfl rfl rfl (op_move rfl) ?_
          refine wl_unwanted rfl rfl rfl rfl rfl rfl rfl rfl ?_
          refine wl_unwanted rfl rfl rfl rfl rfl rfl rfl rfl ?_
          refine wl_unwanted rfl rfl rfl rfl rfl rfl rfl rfl ?_
          refine wl_unwanted rfl rfl rfl rfl rfl rfl rfl rfl ?_
          refine wl_unwanted rfl rfl rfl rfl rfl rfl rfl rfl ?_
          refine wl_unwanted rfl rfl rfl rfl rfl rfl rfl rfl ?_
          refine wl_det rfl rfl rfl (op_pick_t rfl rfl) ?_
          refine wl_nil ?_
          refine st_tn ?_
          refine w_cond_t (rfl) ?_
          refine w_drawW (fun β => [⟨52, [], [], [], noW (_), false, [], []⟩, ⟨53, [0], [], [], noW (_), false, [], []⟩, ⟨54, [], [], [], noW (_), false, [], []⟩, ⟨55, [2], [], [], noW (_), false, [], []⟩, ⟨56, [], [], [], noW (_), false, [], []⟩, ⟨57, [4], [], [], noW (_), false, [], []⟩, ⟨58, [], [], [], noW (_), false, [], []⟩, ⟨59, [6], [], [], noW (_), false, [], []⟩, ⟨60, [], [], [], noW (_), false, [], []⟩, ⟨61, [], [], [], noW (_), false, [], []⟩, ⟨62, [9], [], [], noW (_), false, [], []⟩, ⟨63, [8, 10], [], [], noW (_), false, [], []⟩, ⟨64, [], [], [], noW (_), false, [], []⟩, ⟨65, [], [], [], noW (_), false, [], []⟩, ⟨82, [1, 3, 11], [], [(501, _)], noW (_), false, [], []⟩, ⟨83, [5, 7, 12], [], [(502, _)], noW (_), false, [], []⟩]) [501, 502] [1, 6, 7, 5] [⟨52, [], [], false, [], []⟩, ⟨53, [0], [], false, [], []⟩, ⟨54, [], [], false, [], []⟩, ⟨55, [2], [], false, [], []⟩, ⟨56, [], [], false, [], []⟩, ⟨57, [4], [], false, [], []⟩, ⟨58, [], [], false, [], []⟩, ⟨59, [6], [], false, [], []⟩, ⟨60, [], [], false, [], []⟩, ⟨61, [], [], false, [], []⟩, ⟨62, [9], [], false, [], []⟩, ⟨63, [8, 10], [], false, [], []⟩, ⟨64, [], [], false, [], []⟩, ⟨65, [], [], false, [], []⟩, ⟨82, [1, 3, 11], [], false, [], []⟩, ⟨83, [5, 7, 12], [], false, [], []⟩] [[], [], [], [], [], [], [], [], [], [], [], [], [], [], [], []] [[], [], [], [], [], [], [], [], [], [], [], [], [], [], [(501, _)], [(502, _)]] tMixc (fun _ => by rfl) (fun _ => by rfl) (by kernel_rfl) (by kernel_rfl) (by rfl) (by rfl)
              (fun β => ⟨.p rfl (by intro X; exact op_fieldAddr (off := 0) rfl tF74_0c),
              ⟨.p rfl (by intro X; rintro _ _ ⟨rfl, rfl⟩; exact op_load1 rfl tO72c (Ent.app (Ent.app (Ent.fld hbp 0) X) _)),
              ⟨.p rfl (by intro X; exact op_fieldAddr (off := 1) rfl tF34_1c),
              ⟨.p rfl (by intro X; rintro _ _ ⟨rfl, rfl⟩; exact op_load1 rfl tO3c (Ent.lab (l := 6) rfl (says_cel 1))),
              ⟨.p rfl (by intro X; exact op_fieldAddr (off := 1) rfl tF74_1c),
              ⟨.p rfl (by intro X; rintro _ _ ⟨rfl, rfl⟩; exact op_load1 rfl tO72c (Ent.app (Ent.app (Ent.fld hbp 1) X) _)),
              ⟨.p rfl (by intro X; exact op_fieldAddr (off := 1) rfl tF34_1c),
              ⟨.p rfl (by intro X; rintro _ _ ⟨rfl, rfl⟩; exact op_load1 rfl tO3c (Ent.lab (l := 6) rfl (says_cel 1))),
              ⟨.p rfl (by intro X; exact op_move rfl),
              ⟨.p rfl (by intro X; exact op_fieldAddr (off := 2) rfl tF34_2c),
              ⟨.p rfl (by intro X; rintro _ _ ⟨rfl, rfl⟩; exact op_load1 rfl tO3c (Ent.lab (l := 6) rfl (says_cel 2))),
              ⟨.p rfl (by intro X; rintro _ _ ⟨rfl, rfl⟩ _ _ ⟨rfl, rfl⟩; exact op_add' rfl rfl (by omega)),
              ⟨.p rfl (by intro X; exact op_move rfl),
              ⟨.p rfl (by intro X; exact op_move rfl),
              ⟨.p rfl (by intro X; rintro _ _ ⟨rfl, rfl⟩ _ _ ⟨rfl, rfl⟩ _ _ ⟨rfl, rfl⟩; exact op_mapUpdate (kt := KZ) (encV := encVZ) (lab := 501) rfl rfl rfl tQ72c) (hu := by exact .inr fun _ _ h => h.1),
              ⟨.p rfl (by intro X; rintro _ _ ⟨rfl, rfl⟩ _ _ ⟨rfl, rfl⟩ _ _ ⟨rfl, rfl⟩; exact op_mapUpdate (kt := KZ) (encV := encVZ) (lab := 502) rfl rfl rfl tQ72c) (hu := by exact .inr fun _ _ h => h.1),
              trivial⟩⟩⟩⟩⟩⟩⟩⟩⟩⟩⟩⟩⟩⟩⟩⟩)
              (fun β β' => ⟨fun _ => by rfl, ⟨fun _ => by rfl, ⟨fun _ => by rfl, ⟨fun _ => by rfl, ⟨fun _ => by rfl, ⟨fun _ => by rfl, ⟨fun _ => by rfl, ⟨fun _ => by rfl, ⟨fun _ => by rfl, ⟨fun _ => by rfl, ⟨fun _ => by rfl, ⟨fun _ => by rfl, ⟨fun _ => by rfl, ⟨fun _ => by rfl, ⟨fun _ => by rfl, ⟨fun _ => by rfl, trivial⟩⟩⟩⟩⟩⟩⟩⟩⟩⟩⟩⟩⟩⟩⟩⟩) ?_
          intro β
          rintro _ _ ⟨rfl, rfl⟩ _ _ ⟨rfl, rfl⟩ _ _ ⟨rfl, rfl⟩ _ _ ⟨rfl, rfl⟩ _ _ ⟨rfl, rfl⟩ _ _ ⟨rfl, rfl⟩ _ _ ⟨rfl, rfl⟩ _ _ ⟨rfl, rfl⟩ _ _ ⟨rfl, rfl⟩ _ _ ⟨rfl, rfl⟩ _ _ ⟨rfl, rfl⟩ _ _ ⟨rfl, rfl⟩ _ _ ⟨rfl, rfl⟩ _ _ ⟨rfl, rfl⟩ _ _ ⟨rfl, rfl⟩ _ _ ⟨rfl, rfl⟩
          refine wl_norm (e' := [(1, _), (2, _), (11, _), (12, _), (13, _), (65, _)]) (.cons rfl (.cons rfl (.cons rfl (.cons rfl (.cons rfl (.cons rfl (.nil _))))))) (by dsimp only [cond_false, cond_true, List.nil_append, List.cons_append]) ?_
          refine wl_det rfl rfl rfl (op_assign rfl) ?_
          refine wl_nil ?_
          refine st_bn ?_
          refine st_tn ?_
          refine w_region ?_
          refine wl_det rfl rfl rfl (op_add' rfl rfl (by omega)) ?_
          refine wl_det rfl rfl rfl (op_move rfl) ?_
          refine wl_nil ?_
          refine st_roundQ (x := (la, i, L, B)) ((_, i + 1, _, _)) [501, 502] rfl (rfl) (.cons rfl (.cons rfl (.nil _))) (.cons rfl (.cons rfl (.cons rfl (.cons rfl (.nil _))))) (by
              try dsimp only
              refine ⟨by omega, ?_⟩
              rw [relaxTo_succ hx, hr]
              unfold step1
              first | rw [hfn] | rw [hav]
              try dsimp only
              try rw [if_neg hc33]
              try rw [if_pos (Classical.not_not.1 hc33)]
              try rw [htn]
              try rw [hbv]
              try dsimp only
              try rw [if_pos hc51]
              try rw [if_neg hc51]
              try rfl) (by
              try dsimp only
              omega) 
        · -- htn-
          obtain ⟨bv, hbv⟩ := Option.ne_none_iff_exists'.1 htn
          refine w_region ?_
          refine wl_det rfl rfl rfl (op_fieldAddr (off := 0) rfl tF74_0c) ?_
          refine wl_det rfl rfl rfl (op_load1 rfl tO72c (Ent.app (Ent.fld hbp 0) _)) ?_
          refine wl_det rfl rfl rfl (op_fieldAddr (off := 1) rfl tF34_1c) ?_
          refine wl_det rfl rfl rfl (op_load1 rfl tO3c (Ent.lab (l := 6) rfl (says_cel 1))) ?_
          refine wl_det rfl rfl rfl (op_val (v' := .tuple #[.int .i64 bv, .bool true]) (by rw [hbv]; rfl) (op_lookup2 (kt := KZ) (encV := encVZ) rfl rfl tQ72c tN3c (Mr.lab 501 rfl))) ?_
          refine wl_det rfl rfl rfl (op_move rfl) ?_
          refine wl_det rfl rfl rfl (op_extract rfl rfl) ?_
          refine wl_det rfl rfl rfl (op_val (v' := .bool true) (by rfl) (op_extract rfl rfl)) ?_
          refine wl_det rfl rfl rfl (op_assign rfl) ?_
          refine wl_det rfl rfl rfl (op_assign rfl) ?_
          refine wl_nil ?_
          refine st_tn ?_
          refine w_seq ?_
          refine w_region ?_
          refine wl_det rfl rfl rfl (op_move rfl) ?_
          refine wl_det rfl rfl rfl (op_not_t rfl) ?_
          refine wl_det rfl rfl rfl (op_move rfl) ?_
          refine wl_wanted_det rfl rfl rfl rfl rfl rfl rfl (op_move rfl) ?_
          refine wl_wanted_det rfl rfl rfl rfl rfl rfl rfl (op_fieldAddr (off := 2) rfl tF34_2c) ?_
          refine wl_wanted_det rfl rfl rfl rfl rfl rfl rfl (op_load1 rfl tO3c (Ent.lab (l := 6) rfl (says_cel 2))) ?_
          refine wl_wanted_det rfl rfl rfl rfl rfl rfl rfl (op_add' rfl rfl (by omega)) ?_
          refine wl_wanted_det rfl rfl rfl rfl rfl rfl rfl (op_move rfl) ?_
          refine wl_wanted_det rfl rfl rfl rfl rfl rfl rfl (op_lss rfl rfl) ?_
          refine wl_det rfl rfl rfl (op_pick_f rfl rfl) ?_
          refine wl_nil ?_
          refine st_tn ?_
          refine w_cond_d rfl (fun hc51 => ?_) (fun hc51 => ?_)
          · -- c51.t
            refine w_drawW (fun β => [⟨52, [], [], [], noW (_), false, [], []⟩, ⟨53, [0], [], [], noW (_), false, [], []⟩, ⟨54, [], [], [], noW (_), false, [], []⟩, ⟨55, [2], [], [], noW (_), false, [], []⟩, ⟨56, [], [], [], noW (_), false, [], []⟩, ⟨57, [4], [], [], noW (_), false, [], []⟩, ⟨58, [], [], [], noW (_), false, [], []⟩, ⟨59, [6], [], [], noW (_), false, [], []⟩, ⟨60, [], [], [], noW (_), false, [], []⟩, ⟨61, [], [], [], noW (_), false, [], []⟩, ⟨62, [9], [], [], noW (_), false, [], []⟩, ⟨63, [8, 10], [], [], noW (_), false, [], []⟩, ⟨64, [], [], [], noW (_), false, [], []⟩, ⟨65, [], [], [], noW (_), false, [], []⟩, ⟨82, [1, 3, 11], [], [(501, _)], noW (_), false, [], []⟩, ⟨83, [5, 7, 12], [], [(502, _)], noW (_), false, [], []⟩]) [501, 502] [1, 6, 7, 5] [⟨52, [], [], false, [], []⟩, ⟨53, [0], [], false, [], []⟩, ⟨54, [], [], false, [], []⟩, ⟨55, [2], [], false, [], []⟩, ⟨56, [], [], false, [], []⟩, ⟨57, [4], [], false, [], []⟩, ⟨58, [], [], false, [], []⟩, ⟨59, [6], [], false, [], []⟩, ⟨60, [], [], false, [], []⟩, ⟨61, [], [], false, [], []⟩, ⟨62, [9], [], false, [], []⟩, ⟨63, [8, 10], [], false, [], []⟩, ⟨64, [], [], false, [], []⟩, ⟨65, [], [], false, [], []⟩, ⟨82, [1, 3, 11], [], false, [], []⟩, ⟨83, [5, 7, 12], [], false, [], []⟩] [[], [], [], [], [], [], [], [], [], [], [], [], [], [], [], []] [[], [], [], [], [], [], [], [], [], [], [], [], [], [], [(501, _)], [(502, _)]] tMixc (fun _ => by rfl) (fun _ => by rfl) (by kernel_rfl) (by kernel_rfl) (by rfl) (by rfl)
                (fun β => ⟨.p rfl (by intro X; exact op_fieldAddr (off := 0) rfl tF74_0c),
                ⟨.p rfl (by intro X; rintro _ _ ⟨rfl, rfl⟩; exact op_load1 rfl tO72c (Ent.app (Ent.app (Ent.fld hbp 0) X) _)),
                ⟨.p rfl (by intro X; exact op_fieldAddr (off := 1) rfl tF34_1c),
                ⟨.p rfl (by intro X; rintro _ _ ⟨rfl, rfl⟩; exact op_load1 rfl tO3c (Ent.lab (l := 6) rfl (says_cel 1))),
                ⟨.p rfl (by intro X; exact op_fieldAddr (off := 1) rfl tF74_1c),
                ⟨.p rfl (by intro X; rintro _ _ ⟨rfl, rfl⟩; exact op_load1 rfl tO72c (Ent.app (Ent.app (Ent.fld hbp 1) X) _)),
                ⟨.p rfl (by intro X; exact op_fieldAddr (off := 1) rfl tF34_1c),
                ⟨.p rfl (by intro X; rintro _ _ ⟨rfl, rfl⟩; exact op_load1 rfl tO3c (Ent.lab (l := 6) rfl (says_cel 1))),
                ⟨.p rfl (by intro X; exact op_move rfl),
                ⟨.p rfl (by intro X; exact op_fieldAddr (off := 2) rfl tF34_2c),
                ⟨.p rfl (by intro X; rintro _ _ ⟨rfl, rfl⟩; exact op_load1 rfl tO3c (Ent.lab (l := 6) rfl (says_cel 2))),
                ⟨.p rfl (by intro X; rintro _ _ ⟨rfl, rfl⟩ _ _ ⟨rfl, rfl⟩; exact op_add' rfl rfl (by omega)),
                ⟨.p rfl (by intro X; exact op_move rfl),
                ⟨.p rfl (by intro X; exact op_move rfl),
                ⟨.p rfl (by intro X; rintro _ _ ⟨rfl, rfl⟩ _ _ ⟨rfl, rfl⟩ _ _ ⟨rfl, rfl⟩; exact op_mapUpdate (kt := KZ) (encV := encVZ) (lab := 501) rfl rfl rfl tQ72c) (hu := by exact .inr fun _ _ h => h.1),
                ⟨.p rfl (by intro X; rintro _ _ ⟨rfl, rfl⟩ _ _ ⟨rfl, rfl⟩ _ _ ⟨rfl, rfl⟩; exact op_mapUpdate (kt := KZ) (encV := encVZ) (lab := 502) rfl rfl rfl tQ72c) (hu := by exact .inr fun _ _ h => h.1),
                trivial⟩⟩⟩⟩⟩⟩⟩⟩⟩⟩⟩⟩⟩⟩⟩⟩)
                (fun β β' => ⟨fun _ => by rfl, ⟨fun _ => by rfl, ⟨fun _ => by rfl, ⟨fun _ => by rfl, ⟨fun _ => by rfl, ⟨fun _ => by rfl, ⟨fun _ => by rfl, ⟨fun _ => by rfl, ⟨fun _ => by rfl, ⟨fun _ => by rfl, ⟨fun _ => by rfl, ⟨fun _ => by rfl, ⟨fun _ => by rfl, ⟨fun _ => by rfl, ⟨fun _ => by rfl, ⟨fun _ => by rfl, trivial⟩⟩⟩⟩⟩⟩⟩⟩⟩⟩⟩⟩⟩⟩⟩⟩) ?_
            intro β
            rintro _ _ ⟨rfl, rfl⟩ _ _ ⟨rfl, rfl⟩ _ _ ⟨rfl, rfl⟩ _ _ ⟨rfl, rfl⟩ _ _ ⟨rfl, rfl⟩ _ _ ⟨rfl, rfl⟩ _ _ ⟨rfl, rfl⟩ _ _ ⟨rfl, rfl⟩ _ _ ⟨rfl, rfl⟩ _ _ ⟨rfl, rfl⟩ _ _ ⟨rfl, rfl⟩ _ _ ⟨rfl, rfl⟩ _ _ ⟨rfl, rfl⟩ _ _ ⟨rfl, rfl⟩ _ _ ⟨rfl, rfl⟩ _ _ ⟨rfl, rfl⟩
            refine wl_norm (e' := [(1, _), (2, _), (11, _), (12, _), (13, _), (65, _)]) (.cons rfl (.cons rfl (.cons rfl (.cons rfl (.cons rfl (.cons rfl (.nil _))))))) (by dsimp only [cond_false, cond_true, List.nil_append, List.cons_append]) ?_
            refine wl_det rfl rfl rfl (op_assign rfl) ?_
            refine wl_nil ?_
            refine st_bn ?_
            refine st_tn ?_
            refine w_region ?_
            refine wl_det rfl rfl rfl (op_add' rfl rfl (by omega)) ?_
            refine wl_det rfl rfl rfl (op_move rfl) ?_
            refine wl_nil ?_
            refine st_roundQ (x := (la, i, L, B)) ((_, i + 1, _, _)) [501, 502] rfl (rfl) (.cons rfl (.cons rfl (.nil _))) (.cons rfl (.cons rfl (.cons rfl (.cons rfl (.nil _))))) (by
                try dsimp only
                refine ⟨by omega, ?_⟩
                rw [relaxTo_succ hx, hr]
                unfold step1
                first | rw [hfn] | rw [hav]
                try dsimp only
                try rw [if_neg hc33]
                try rw [if_pos (Classical.not_not.1 hc33)]
                try rw [htn]
                try rw [hbv]
                try dsimp only
                try rw [if_pos hc51]
                try rw [if_neg hc51]
                try rfl) (by
                try dsimp only
                omega) 
          · -- c51.f
            refine w_skip ?_
            refine st_bn ?_
            refine st_tn ?_
            refine w_region ?_
            refine wl_det rfl rfl rfl (op_add' rfl rfl (by omega)) ?_
            refine wl_det rfl rfl rfl (op_move rfl) ?_
            refine wl_nil ?_
            refine st_roundQ (x := (la, i, L, B)) ((_, i + 1, _, _)) [501, 502] rfl (rfl) (.cons rfl (.cons rfl (.nil _))) (.cons rfl (.cons rfl (.cons rfl (.cons rfl (.nil _))))) (by
                try dsimp only
                refine ⟨by omega, ?_⟩
                rw [relaxTo_succ hx, hr]
                unfold step1
                first | rw [hfn] | rw [hav]
                try dsimp only
                try rw [if_neg hc33]
                try rw [if_pos (Classical.not_not.1 hc33)]
                try rw [htn]
                try rw [hbv]
                try dsimp only
                try rw [if_pos hc51]
                try rw [if_neg hc51]
                try rfl) (by
                try dsimp only
                omega) 
  · -- c14.f
    refine w_exit ?_
    refine st_te ?_
    refine st_te ?_
    refine st_be ?_
    refine st_tn ?_
    refine w_seq ?_
    have hil : i = l.length := by omega
    subst hil
    refine w_region ?_
    refine wl_det rfl rfl rfl (op_move rfl) ?_
    refine wl_det rfl rfl rfl (op_assign rfl) ?_
    refine wl_nil ?_
    refine st_tn ?_
    refine w_ret ?_
    refine st_ret (vs := [_]) [501, 502] Try.results65 ⟨rfl, trivial⟩ rfl ?_
    refine ⟨[(501, _), (502, _)], rfl, ?_⟩
    unfold relax; rw [hr]; exact ⟨rfl, rfl⟩

end Go.Proofs.Ytgdjnjbipemdcaa
