/- The law DictionaryFull (layer 6). Conditions: none. -/
import Derived.Test.YtbpihhaiechnbaaD10
namespace Go.Proofs.Ytbpihhaiechnbaa
open Go Go.SL Go.RowKit Go.DicM
set_option linter.unusedVariables false
set_option linter.unusedSimpArgs false
theorem tL22_1k : zerosB Try.prog 22 9 1 1 = some [Value.string .empty] := by kernel_rfl
theorem tL30_2k : zerosB Try.prog 30 5 1 2 = some [Value.int .u8 0, Value.int .u8 0] := by kernel_rfl
theorem tMixk : Try.prog.follows .mixedOrders = true := by kernel_rfl
theorem tP22k : appB Try.prog 22 9 1 16 = true := by kernel_rfl
theorem tS22k : sliceB Try.prog 22 9 1 = true := by kernel_rfl
theorem tS31k : sliceB Try.prog 31 3 1 = true := by kernel_rfl

def pair (i : Nat) : Bs := [UInt8.ofNat (i / 64), UInt8.ofNat (i % 64)]
theorem u8_lt {a b : Nat} (h : a < b) (hb : b ≤ 255) : UInt8.ofNat a < UInt8.ofNat b := by
  rw [UInt8.lt_iff_toNat_lt, u8_of (by omega), u8_of hb]; exact h
theorem pair_lt {i j : Nat} (h : i < j) (hj : j < 4096) : pair i < pair j := by
  unfold pair
  rw [List.cons_lt_cons_iff]
  by_cases h1 : i / 64 = j / 64
  · right
    refine ⟨by rw [h1], ?_⟩
    rw [List.cons_lt_cons_iff]
    exact .inl (u8_lt (by omega) (by omega))
  · exact .inl (u8_lt (by omega) (by omega))
theorem pair_64 {i : Nat} (hi : i < 4096) (e : Nat) : pair i < [64, UInt8.ofNat e] := by
  unfold pair
  rw [List.cons_lt_cons_iff]
  exact .inl (u8_lt (a := i / 64) (b := 64) (by omega) (by omega))
/-- The facts about the list of the law. -/
structure Full (l : List Bs) : Prop where
  inc : Inc l
  len : l.length = 4096
  short : ∀ x ∈ l, x.length ≤ 255
  lt : ∀ e : Nat, ∀ x ∈ l, x < [64, UInt8.ofNat e]
theorem full_range : Full ((List.range 4096).map pair) := by
  refine ⟨?_, by rw [List.length_map, List.length_range], fun x hx => ?_, fun e x hx => ?_⟩
  · rw [Inc, List.pairwise_map]
    exact List.pairwise_lt_range.imp_of_mem fun {a b} _ hb h => pair_lt h (List.mem_range.1 hb)
  · obtain ⟨i, _, rfl⟩ := List.mem_map.1 hx; simp [pair]
  · obtain ⟨i, hi, rfl⟩ := List.mem_map.1 hx; exact pair_64 (List.mem_range.1 hi) e
theorem full_again {l : List Bs} (h : Full l) (k : Nat) : bldE (l ++ l.take k) = 0 ∧ bldL (l ++ l.take k) = l := by
  have hs : ∀ x ∈ l ++ l.take k, x.length ≤ 255 := fun x hx => by
    rcases List.mem_append.1 hx with hx | hx
    · exact h.short x hx
    · exact h.short x (List.mem_of_mem_take hx)
  obtain ⟨p1, p2⟩ := build_spec (l := l ++ l.take k) (d := []) List.Pairwise.nil
  have he : build [] (l ++ l.take k) = l := p1.ext h.inc fun x => by
    rw [p2, List.mem_append]
    constructor
    · rintro (hx | hx | hx)
      · simp at hx
      · exact hx
      · exact List.mem_of_mem_take hx
    · intro hx; exact .inr (.inl hx)
  obtain ⟨q1, q2⟩ := bld_ok hs (by rw [he, h.len]; omega)
  exact ⟨q1, by rw [q2, he]⟩
theorem full_more {l : List Bs} (h : Full l) (e : Nat) : bldE (l ++ [[64, UInt8.ofNat e]]) = 6 ∧ bldL (l ++ [[64, UInt8.ofNat e]]) = [] := by
  have hs : ∀ x ∈ l ++ [[64, UInt8.ofNat e]], x.length ≤ 255 := fun x hx => by
    rcases List.mem_append.1 hx with hx | hx
    · exact h.short x hx
    · simp at hx; subst hx; simp
  have hi : Inc (l ++ [[64, UInt8.ofNat e]]) := h.inc.snoc (h.lt e)
  exact bld_many hs (by rw [build_self hi, List.length_append, h.len]; simp)
set_option maxHeartbeats 2000000 in
set_option maxRecDepth 100000 in
theorem full_any {σ : World} {F : List Res} (ex rp : Nat) (he : ex ≤ 255) (hr : rp ≤ 255) :
    FnT Try.prog σ F 4 [.int .u8 ex, .int .u8 rp] [] (fun u ρ => u = .bool true ∧ ρ = []) := by
  refine fn_of 102 Try.func4 rfl Try.ntmps4 rfl ?_
  refine w_seq ?_
  refine w_region ?_
  refine wl_det rfl rfl rfl (op_assign rfl) ?_
  refine wl_nil ?_
  refine st_tn ?_
  refine w_seq ?_
  refine w_seq ?_
  refine w_region ?_
  refine wl_det rfl rfl rfl (op_fn Try.func13 rfl rfl rfl (known_any)) ?_
  refine wl_det rfl rfl rfl (op_not_t rfl) ?_
  refine wl_nil ?_
  refine st_tn ?_
  refine w_cond_f (rfl) ?_
  refine w_skip ?_
  refine st_tn ?_
  refine w_seq ?_
  refine w_region ?_
  refine wl_det rfl rfl rfl (op_assign rfl) ?_
  refine wl_nil ?_
  refine st_tn ?_
  refine w_seq ?_
  refine w_seq ?_
  refine w_region ?_
  refine wl_det rfl rfl rfl (op_assign rfl) ?_
  refine wl_nil ?_
  refine st_tn ?_
  refine w_block ?_
  refine w_emp 5 (slO_nil 9 1) ?_
  refine w_loopQ (X := Nat × List (List UInt8) × Option Addr × Nat) (fun z => z.1 ≤ 4096 ∧ z.2.1 = (List.range z.1).map pair) (fun z => [(6, .int .i64 (z.1)), (5, .slice (z.2.2.1) (z.2.1).length (z.2.2.2))]) (fun z => [(5, slW 9 encT 1 (.slice (z.2.2.1) (z.2.1).length (z.2.2.2)) (z.2.1))]) (fun z => 4096 - z.1) ((0, [], none, 0)) [(0, _), (1, _)] [] [5] rfl (rfl) (.cons rfl (.cons rfl (.nil _))) (.cons rfl (.cons rfl (.nil _))) (by
      try dsimp only
      exact ⟨Nat.zero_le _, rfl⟩) ?_
  rintro ⟨i, out, a_out, c_out⟩ ⟨hi, ho⟩
  refine w_norm2 (by dsimp only [List.cons_append, List.nil_append]) (by dsimp only [List.cons_append, List.nil_append]) ?_
  try dsimp only at hi ho ⊢
  refine w_seq ?_
  refine w_seq ?_
  refine w_region ?_
  refine wl_det rfl rfl rfl (op_move rfl) ?_
  refine wl_det rfl rfl rfl (op_lss rfl rfl) ?_
  refine wl_nil ?_
  refine st_tn ?_
  refine w_cond_d rfl (fun hc19 => ?_) (fun hc19 => ?_)
  · -- c19.t
    have hlo : out.length = i := by rw [ho]; simp
    refine w_skip ?_
    refine st_tn ?_
    refine w_seq ?_
    refine w_block ?_
    refine w_region ?_
    refine wl_det rfl rfl rfl (op_move rfl) ?_
    refine wl_det rfl rfl rfl (op_move rfl) ?_
    refine wl_det rfl rfl rfl (op_quoN rfl rfl (by omega) (by omega) (by omega)) ?_
    refine wl_det rfl rfl rfl (op_val (v' := .int .u8 ((UInt8.ofNat (i / 64)).toNat : Nat)) (by rw [show ((i : Int) / 64).toNat = i / 64 by omega]) (op_convU rfl (by rw [Try.underlying3]; rfl) Try.underlying5 (by omega))) ?_
    refine wl_det rfl rfl rfl (op_move rfl) ?_
    refine wl_det rfl rfl rfl (op_remN rfl rfl (by omega) (by omega)) ?_
    refine wl_det rfl rfl rfl (op_val (v' := .int .u8 ((UInt8.ofNat (i % 64)).toNat : Nat)) (by rw [show ((i : Int) % 64).toNat = i % 64 by omega]) (op_convU rfl (by rw [Try.underlying3]; rfl) Try.underlying5 (by omega))) ?_
    refine wl_op [] rfl rfl rfl rfl (op_buildSlice (enc := encU) (l := [_, _]) (lab := 29) tL30_2k rfl rfl (fun _ => rfl) rfl) ?_
    rintro _ _ ⟨a29, c29, rfl, rfl⟩
    refine wl_det rfl rfl rfl (op_bytesStr rfl Try.underlying30 Try.underlying5 Try.underlying9 (Sl.lab 29 rfl (by unfold maxLen; first | omega | (simp; done) | (simp; omega)))) ?_
    refine wl_op [] rfl rfl rfl rfl (op_buildSlice (enc := encT) (l := [_]) (lab := 31) tL22_1k rfl rfl (fun _ => rfl) rfl) ?_
    rintro _ _ ⟨a31, c31, rfl, rfl⟩
    refine wl_op [5] rfl rfl rfl rfl (op_append (lab := 5) (lab' := 32) rfl rfl tP22k enc1T (Sl.lab 31 rfl (by simp [maxLen])) (by first | omega | (simp; done) | (simp; omega)) (by first | omega | (simp; done) | (simp; omega))) ?_
    rintro _ _ ⟨a32, c32, rfl, rfl⟩
    refine wl_det rfl rfl rfl (op_assign rfl) ?_
    refine wl_nil ?_
    refine st_bn ?_
    refine st_tn ?_
    refine w_region ?_
    refine wl_det rfl rfl rfl (op_move rfl) ?_
    refine wl_det rfl rfl rfl (op_add' rfl rfl (by omega)) ?_
    refine wl_det rfl rfl rfl (op_assign rfl) ?_
    refine wl_nil ?_
    refine st_roundQ (x := (i, out, a_out, c_out)) ((i + 1, _, _, _)) [32] rfl (rfl) (.cons rfl (.cons rfl (.nil _))) (.cons rfl (.cons rfl (.nil _))) (by
        try dsimp only
        exact ⟨by omega, by rw [List.range_succ, List.map_append, ho]; rfl⟩) (by
        try dsimp only
        omega) 
  · -- c19.f
    refine w_exit ?_
    refine st_te ?_
    refine st_te ?_
    refine st_be ?_
    refine st_tn ?_
    refine w_seq ?_
    have hfull : Full out := by rw [ho, show i = 4096 by omega]; exact full_range
    clear ho
    have hlen := hfull.len
    refine w_drawW (fun β => [⟨34, [], [], [], fun w => DetW _ _, true, [], []⟩, ⟨35, [], [], [], noW (_), false, [], []⟩, ⟨36, [1], [0], [], fun w => DetW _ _, true, [], []⟩, ⟨37, [], [], [], noW (_), false, [], []⟩, ⟨38, [], [], [], noW (_), false, [], []⟩, ⟨39, [3, 4], [], [], noW (_), false, [], []⟩, ⟨40, [5], [2], [], fun w => DetW _ _, false, [], []⟩, ⟨41, [6], [], [], fun w => DetW _ _, false, [], []⟩, ⟨33, [7], [], [], noW (_), false, [], []⟩, ⟨42, [8], [], [], noW (_), false, [], []⟩, ⟨43, [8], [], [], noW (_), false, [], []⟩, ⟨7, [9], [], [], noW (_), false, [], []⟩]) [] [5, 1] [⟨34, [], [], true, [], []⟩, ⟨35, [], [], false, [], []⟩, ⟨36, [1], [0], true, [], []⟩, ⟨37, [], [], false, [], []⟩, ⟨38, [], [], false, [], []⟩, ⟨39, [3, 4], [], false, [], []⟩, ⟨40, [5], [2], false, [], []⟩, ⟨41, [6], [], false, [], []⟩, ⟨33, [7], [], false, [], []⟩, ⟨42, [8], [], false, [], []⟩, ⟨43, [8], [], false, [], []⟩, ⟨7, [9], [], false, [], []⟩] [[], [], [0], [], [], [], [0, 2], [0, 2, 6], [0, 2, 6, 7], [0, 2, 6, 7], [0, 2, 6, 7], [0, 2, 6, 7]] [[], [], [], [], [], [], [], [], [], [], [], []] tMixk (fun _ => by rfl) (fun _ => by rfl) (by kernel_rfl) (by kernel_rfl) (by rfl) (by rfl)
        (fun β => ⟨.px rfl (by intro X; refine OpT.mono (op_lit0 (enc := encT) (lab := 34) tS22k) ?_; rintro _ _ ⟨a34, c34, rfl, rfl⟩; obtain ⟨w, rfl, rfl⟩ : ∃ w : Wt, w.a = a34 ∧ w.c = c34 := ⟨{ a := a34, c := c34 }, rfl, rfl⟩; exact ⟨w, rfl, rfl⟩),
        ⟨.p rfl (by intro X; exact op_move rfl),
        ⟨.px rfl (by intro X; rintro _ _ ⟨rfl, rfl⟩ _ _ ⟨rfl, rfl⟩; show OpT _ _ _ _ _ _ [(_, _)] _; refine OpT.mono (op_append (lab := 34) (lab' := 36) rfl rfl tP22k enc1T (Sl.lab 5 rfl (by unfold maxLen; omega)) (by first | omega | (simp; done) | (simp; omega)) (by first | omega | (simp; done) | (simp; omega))) ?_; rintro _ _ ⟨a36, c36, rfl, rfl⟩; obtain ⟨w, rfl, rfl⟩ : ∃ w : Wt, w.a = a36 ∧ w.c = c36 := ⟨{ a := a36, c := c36 }, rfl, rfl⟩; exact ⟨w, rfl, rfl⟩),
        ⟨.p rfl (by intro X; exact op_move rfl),
        ⟨.p rfl (by intro X; exact op_move rfl),
        ⟨.p rfl (by intro X; rintro _ _ ⟨rfl, rfl⟩ _ _ ⟨rfl, rfl⟩; exact op_sliceRk rfl rfl tS22k (Sl.lab 5 rfl (by unfold maxLen; omega)) (by omega)),
        ⟨.px rfl (by intro X; rintro _ _ ⟨rfl, rfl⟩ _ _ ⟨rfl, rfl⟩; show OpT _ _ _ _ _ _ [(_, _)] _; refine OpT.mono (op_append (lab := 36) (lab' := 40) rfl rfl tP22k enc1T (Sl.takeR (Sl.lab 5 rfl (by unfold maxLen; omega)) (by omega)) (by first | omega | (simp; done) | (simp; omega)) (by first | omega | (simp; done) | (simp; omega))) ?_; rintro _ _ ⟨a40, c40, rfl, rfl⟩; obtain ⟨w, rfl, rfl⟩ : ∃ w : Wt, w.a = a40 ∧ w.c = c40 := ⟨{ a := a40, c := c40 }, rfl, rfl⟩; exact ⟨w, rfl, rfl⟩),
        ⟨.px rfl (by intro X; rintro _ _ ⟨rfl, rfl⟩; refine OpT.mono (op_fn Try.func15 rfl rfl rfl (build_any (l := out ++ out.take rp) 41 (Sl.lab 40 rfl (by unfold maxLen; simp; omega)) (by simp; omega))) ?_; rintro _ _ ⟨a41, c41, rfl, rfl⟩; obtain ⟨w, rfl, rfl⟩ : ∃ w : Wt, w.a = a41 ∧ w.c = c41 := ⟨{ a := a41, c := c41 }, rfl, rfl⟩; exact ⟨w, rfl, rfl⟩),
        ⟨.p rfl (by intro X; rintro _ _ ⟨rfl, rfl⟩; exact op_move rfl),
        ⟨.p rfl (by intro X; rintro _ _ ⟨rfl, rfl⟩; exact op_extract rfl rfl),
        ⟨.p rfl (by intro X; rintro _ _ ⟨rfl, rfl⟩; exact op_extract rfl rfl),
        ⟨.p rfl (by intro X; rintro _ _ ⟨rfl, rfl⟩; exact op_assign rfl),
        trivial⟩⟩⟩⟩⟩⟩⟩⟩⟩⟩⟩⟩)
        (fun β β' => ⟨fun _ => by rfl, ⟨fun _ => by rfl, ⟨fun h => by first | rfl | (simp only [h 0 (by decide)]), ⟨fun _ => by rfl, ⟨fun _ => by rfl, ⟨fun _ => by rfl, ⟨fun h => by first | rfl | (simp only [h 0 (by decide), h 2 (by decide)]), ⟨fun h => by first | rfl | (simp only [h 0 (by decide), h 2 (by decide), h 6 (by decide)]), ⟨fun h => by first | rfl | (simp only [h 0 (by decide), h 2 (by decide), h 6 (by decide), h 7 (by decide)]), ⟨fun h => by first | rfl | (simp only [h 0 (by decide), h 2 (by decide), h 6 (by decide), h 7 (by decide)]), ⟨fun h => by first | rfl | (simp only [h 0 (by decide), h 2 (by decide), h 6 (by decide), h 7 (by decide)]), ⟨fun h => by first | rfl | (simp only [h 0 (by decide), h 2 (by decide), h 6 (by decide), h 7 (by decide)]), trivial⟩⟩⟩⟩⟩⟩⟩⟩⟩⟩⟩⟩) ?_
    intro β
    rintro _ _ ⟨rfl, rfl⟩ _ _ ⟨rfl, rfl⟩ _ _ ⟨rfl, rfl⟩ _ _ ⟨rfl, rfl⟩ _ _ ⟨rfl, rfl⟩ _ _ ⟨rfl, rfl⟩ _ _ ⟨rfl, rfl⟩ _ _ ⟨rfl, rfl⟩ _ _ ⟨rfl, rfl⟩ _ _ ⟨rfl, rfl⟩ _ _ ⟨rfl, rfl⟩ _ _ ⟨rfl, rfl⟩
    generalize (β 0).a = a34
    generalize (β 0).c = c34
    generalize (β 2).a = a36
    generalize (β 2).c = c36
    generalize (β 6).a = a40
    generalize (β 6).c = c40
    generalize (β 7).a = a41
    generalize (β 7).c = c41
    refine wl_norm (e' := [(0, _), (5, _), (7, _), (43, _)]) (.cons rfl (.cons rfl (.cons rfl (.cons rfl (.nil _))))) (by dsimp only [cond_false, cond_true, List.nil_append, List.cons_append]) ?_
    refine wl_det rfl rfl rfl (op_assign rfl) ?_
    refine wl_nil ?_
    refine st_tn ?_
    refine w_seq ?_
    rw [(full_again hfull rp).1, (full_again hfull rp).2]
    refine w_drawW (fun β => [⟨44, [], [], [], fun w => DetW _ _, true, [], []⟩, ⟨45, [], [], [], noW (_), false, [], []⟩, ⟨46, [1], [0], [], fun w => DetW _ _, false, [], []⟩, ⟨47, [], [], [], noW (_), false, [], []⟩, ⟨48, [3], [], [], fun w => DetW _ _, false, [], []⟩, ⟨49, [4], [], [], noW (_), false, [], []⟩, ⟨50, [5], [], [], fun w => DetW _ _, false, [], []⟩]) [] [5, 0] [⟨44, [], [], true, [], []⟩, ⟨45, [], [], false, [], []⟩, ⟨46, [1], [0], false, [], []⟩, ⟨47, [], [], false, [], []⟩, ⟨48, [3], [], false, [], []⟩, ⟨49, [4], [], false, [], []⟩, ⟨50, [5], [], false, [], []⟩] [[], [], [0], [], [], [4], [4]] [[], [], [], [], [], [], []] tMixk (fun _ => by rfl) (fun _ => by rfl) (by kernel_rfl) (by kernel_rfl) (by rfl) (by rfl)
        (fun β => ⟨.px rfl (by intro X; refine OpT.mono (op_lit0 (enc := encT) (lab := 44) tS22k) ?_; rintro _ _ ⟨a44, c44, rfl, rfl⟩; obtain ⟨w, rfl, rfl⟩ : ∃ w : Wt, w.a = a44 ∧ w.c = c44 := ⟨{ a := a44, c := c44 }, rfl, rfl⟩; exact ⟨w, rfl, rfl⟩),
        ⟨.p rfl (by intro X; exact op_move rfl),
        ⟨.px rfl (by intro X; rintro _ _ ⟨rfl, rfl⟩ _ _ ⟨rfl, rfl⟩; show OpT _ _ _ _ _ _ [(_, _)] _; refine OpT.mono (op_append (lab := 44) (lab' := 46) rfl rfl tP22k enc1T (Sl.lab 5 rfl (by unfold maxLen; omega)) (by first | omega | (simp; done) | (simp; omega)) (by first | omega | (simp; done) | (simp; omega))) ?_; rintro _ _ ⟨a46, c46, rfl, rfl⟩; obtain ⟨w, rfl, rfl⟩ : ∃ w : Wt, w.a = a46 ∧ w.c = c46 := ⟨{ a := a46, c := c46 }, rfl, rfl⟩; exact ⟨w, rfl, rfl⟩),
        ⟨.p rfl (by intro X; exact op_val (v' := .int .u8 ((UInt8.ofNat ex).toNat : Nat)) (by rw [u8_of he]) (op_move rfl)),
        ⟨.px rfl (by intro X; rintro _ _ ⟨rfl, rfl⟩; refine OpT.mono (op_buildSlice (enc := encU) (l := [64, UInt8.ofNat ex]) (lab := 48) tL30_2k rfl rfl (fun _ => rfl) rfl) ?_; rintro _ _ ⟨a48, c48, rfl, rfl⟩; obtain ⟨w, rfl, rfl⟩ : ∃ w : Wt, w.a = a48 ∧ w.c = c48 := ⟨{ a := a48, c := c48 }, rfl, rfl⟩; exact ⟨w, rfl, rfl⟩),
        ⟨.p rfl (by intro X; rintro _ _ ⟨rfl, rfl⟩; exact op_bytesStr rfl Try.underlying30 Try.underlying5 Try.underlying9 (Sl.lab 48 rfl (by unfold maxLen; first | omega | (simp; done) | (simp; omega)))),
        ⟨.px rfl (by intro X; rintro _ _ ⟨rfl, rfl⟩; refine OpT.mono (op_buildSlice (enc := encT) (l := [_]) (lab := 50) tL22_1k rfl rfl (fun _ => rfl) rfl) ?_; rintro _ _ ⟨a50, c50, rfl, rfl⟩; obtain ⟨w, rfl, rfl⟩ : ∃ w : Wt, w.a = a50 ∧ w.c = c50 := ⟨{ a := a50, c := c50 }, rfl, rfl⟩; exact ⟨w, rfl, rfl⟩),
        trivial⟩⟩⟩⟩⟩⟩⟩)
        (fun β β' => ⟨fun _ => by rfl, ⟨fun _ => by rfl, ⟨fun h => by first | rfl | (simp only [h 0 (by decide)]), ⟨fun _ => by rfl, ⟨fun _ => by rfl, ⟨fun h => by first | rfl | (simp only [h 4 (by decide)]), ⟨fun h => by first | rfl | (simp only [h 4 (by decide)]), trivial⟩⟩⟩⟩⟩⟩⟩) ?_
    intro β
    rintro _ _ ⟨rfl, rfl⟩ _ _ ⟨rfl, rfl⟩ _ _ ⟨rfl, rfl⟩ _ _ ⟨rfl, rfl⟩ _ _ ⟨rfl, rfl⟩ _ _ ⟨rfl, rfl⟩ _ _ ⟨rfl, rfl⟩
    generalize (β 0).a = a44
    generalize (β 0).c = c44
    generalize (β 2).a = a46
    generalize (β 2).c = c46
    generalize (β 4).a = a48
    generalize (β 4).c = c48
    generalize (β 6).a = a50
    generalize (β 6).c = c50
    refine wl_norm (e' := [(5, _), (7, _), (8, _), (46, _), (50, _)]) (.cons rfl (.cons rfl (.cons rfl (.cons rfl (.cons rfl (.nil _)))))) (by dsimp only [cond_false, cond_true, List.nil_append, List.cons_append]) ?_
    refine wl_op [46] rfl rfl rfl rfl (op_append (lab := 46) (lab' := 51) rfl rfl tP22k enc1T (Sl.lab 50 rfl (by simp [maxLen])) (by first | omega | (simp; done) | (simp; omega)) (by first | omega | (simp; done) | (simp; omega))) ?_
    rintro _ _ ⟨a51, c51, rfl, rfl⟩
    refine wl_det rfl rfl rfl (op_assign rfl) ?_
    refine wl_nil ?_
    refine st_tn ?_
    refine w_seq ?_
    refine w_region ?_
    refine wl_det rfl rfl rfl (op_move rfl) ?_
    refine wl_op [] rfl rfl rfl rfl (op_fn Try.func15 rfl rfl rfl (build_any (l := out ++ [[64, UInt8.ofNat ex]]) 54 (Sl.lab 51 rfl (by unfold maxLen; simp; omega)) (by simp; omega))) ?_
    rintro _ _ ⟨a54, c54, rfl, rfl⟩
    refine wl_det rfl rfl rfl (op_move rfl) ?_
    refine wl_det rfl rfl rfl (op_extract rfl rfl) ?_
    refine wl_det rfl rfl rfl (op_extract rfl rfl) ?_
    refine wl_det rfl rfl rfl (op_assign rfl) ?_
    refine wl_det rfl rfl rfl (op_assign rfl) ?_
    refine wl_nil ?_
    refine st_tn ?_
    refine w_seq ?_
    rw [(full_more hfull ex).1, (full_more hfull ex).2]
    refine w_region ?_
    refine wl_det rfl rfl rfl (op_move rfl) ?_
    refine wl_det rfl rfl rfl (op_move rfl) ?_
    refine wl_det rfl rfl rfl (op_val (v' := .slice (SL.sub a51 c51 4096 1) ((out ++ [[64, UInt8.ofNat ex]]).drop 4096).length (c51 - 4096)) (by simp only [List.length_drop, List.nil_append]) (op_sliceL rfl rfl tS22k (Sl.lab 51 rfl (by unfold maxLen; first | omega | (simp; done) | (simp; omega))) (by simp; omega))) ?_
    refine wl_op [] rfl rfl rfl rfl (op_fn Try.func20 rfl rfl rfl (merge_any (l := out) (m := (out ++ [[64, UInt8.ofNat ex]]).drop 4096) 61 161 261 (Sl.lab 5 rfl (by unfold maxLen; omega)) (show Sl _ _ encT 1 (.slice _ ((out ++ [[64, UInt8.ofNat ex]]).drop 4096).length _) _ by rw [List.length_drop]; exact Sl.dropL (Sl.lab 51 rfl (by unfold maxLen; simp; omega)) (by simp; omega)) (by simp; omega))) ?_
    rintro _ _ ⟨a61, c61, p61, q61, s61, t61, rfl, rfl⟩
    refine wl_det rfl rfl rfl (op_move rfl) ?_
    refine wl_det rfl rfl rfl (op_extract rfl rfl) ?_
    refine wl_det rfl rfl rfl (op_extract rfl rfl) ?_
    refine wl_det rfl rfl rfl (op_extract rfl rfl) ?_
    refine wl_det rfl rfl rfl (op_extract rfl rfl) ?_
    refine wl_det rfl rfl rfl (op_assign rfl) ?_
    refine wl_det rfl rfl rfl (op_assign rfl) ?_
    refine wl_det rfl rfl rfl (op_assign rfl) ?_
    refine wl_det rfl rfl rfl (op_assign rfl) ?_
    refine wl_nil ?_
    refine st_tn ?_
    refine w_seq ?_
    have hdr : (out ++ [[64, UInt8.ofNat ex]]).drop 4096 = [[64, UInt8.ofNat ex]] := List.drop_left' hlen
    have hA : ∀ x, mrgA out [[64, UInt8.ofNat ex]] x = [] := fun x => by unfold mrgA; rw [(full_more hfull ex).1]; rfl
    rw [hdr, hA, hA, (full_more hfull ex).1, (full_more hfull ex).2]
    have hck : chkE (out ++ [[64, UInt8.ofNat ex]]) = 6 := by unfold chkE; rw [if_pos (by simp; omega)]
    refine w_region ?_
    refine wl_det rfl rfl rfl (op_move rfl) ?_
    refine wl_det rfl rfl rfl (op_move rfl) ?_
    refine wl_det rfl rfl rfl (op_val (v' := .bool true) (by simp) (op_fn Try.func19 rfl rfl rfl (same_any (Sl.lab 41 rfl (by unfold maxLen; first | omega | (simp; done) | (simp; omega))) (Sl.lab 5 rfl (by unfold maxLen; first | omega | (simp; done) | (simp; omega)))))) ?_
    refine wl_det rfl rfl rfl (op_move rfl) ?_
    refine wl_wanted_det rfl rfl rfl rfl rfl rfl rfl (op_move rfl) ?_
    refine wl_wanted_det rfl rfl rfl rfl rfl rfl rfl (op_val (v' := .bool true) (by rfl) (op_eql rfl rfl)) ?_
    refine wl_det rfl rfl rfl (op_pick_t rfl rfl) ?_
    refine wl_det rfl rfl rfl (op_move rfl) ?_
    refine wl_wanted_det rfl rfl rfl rfl rfl rfl rfl (op_move rfl) ?_
    refine wl_wanted_det rfl rfl rfl rfl rfl rfl rfl (op_lenT rfl tS22k (Sl.ent (Sl.lab 54 rfl (by unfold maxLen; first | omega | (simp; done) | (simp; omega))))) ?_
    refine wl_wanted_det rfl rfl rfl rfl rfl rfl rfl (op_val (v' := .bool true) (by rfl) (op_eql rfl rfl)) ?_
    refine wl_det rfl rfl rfl (op_pick_t rfl rfl) ?_
    refine wl_det rfl rfl rfl (op_move rfl) ?_
    refine wl_wanted_det rfl rfl rfl rfl rfl rfl rfl (op_move rfl) ?_
    refine wl_wanted_det rfl rfl rfl rfl rfl rfl rfl (op_val (v' := .bool true) (by rfl) (op_eql rfl rfl)) ?_
    refine wl_det rfl rfl rfl (op_pick_t rfl rfl) ?_
    refine wl_det rfl rfl rfl (op_move rfl) ?_
    refine wl_wanted_det rfl rfl rfl rfl rfl rfl rfl (op_move rfl) ?_
    refine wl_wanted_det rfl rfl rfl rfl rfl rfl rfl (op_fn Try.func17 rfl rfl rfl (check_any (Sl.lab 51 rfl (by unfold maxLen; simp; omega)) (by simp; omega))) ?_
    refine wl_wanted_det rfl rfl rfl rfl rfl rfl rfl (op_val (v' := .bool true) (by rw [hck]; rfl) (op_eql rfl rfl)) ?_
    refine wl_det rfl rfl rfl (op_pick_t rfl rfl) ?_
    refine wl_det rfl rfl rfl (op_move rfl) ?_
    refine wl_wanted_det rfl rfl rfl rfl rfl rfl rfl (op_move rfl) ?_
    refine wl_wanted_det rfl rfl rfl rfl rfl rfl rfl (op_lenT rfl tS22k (Sl.ent (Sl.lab 61 rfl (by unfold maxLen; first | omega | (simp; done) | (simp; omega))))) ?_
    refine wl_wanted_det rfl rfl rfl rfl rfl rfl rfl (op_move rfl) ?_
    refine wl_wanted_det rfl rfl rfl rfl rfl rfl rfl (op_lenT rfl tS31k (Sl.ent (Sl.lab 161 rfl (by unfold maxLen; first | omega | (simp; done) | (simp; omega))))) ?_
    refine wl_wanted_det rfl rfl rfl rfl rfl rfl rfl (op_add' rfl rfl (by simp)) ?_
    refine wl_wanted_det rfl rfl rfl rfl rfl rfl rfl (op_move rfl) ?_
    refine wl_wanted_det rfl rfl rfl rfl rfl rfl rfl (op_lenT rfl tS31k (Sl.ent (Sl.lab 261 rfl (by unfold maxLen; first | omega | (simp; done) | (simp; omega))))) ?_
    refine wl_wanted_det rfl rfl rfl rfl rfl rfl rfl (op_add' rfl rfl (by simp)) ?_
    refine wl_wanted_det rfl rfl rfl rfl rfl rfl rfl (op_val (v' := .bool true) (by rfl) (op_eql rfl rfl)) ?_
    refine wl_det rfl rfl rfl (op_pick_t rfl rfl) ?_
    refine wl_det rfl rfl rfl (op_move rfl) ?_
    refine wl_wanted_det rfl rfl rfl rfl rfl rfl rfl (op_move rfl) ?_
    refine wl_wanted_det rfl rfl rfl rfl rfl rfl rfl (op_val (v' := .bool true) (by rfl) (op_eql rfl rfl)) ?_
    refine wl_det rfl rfl rfl (op_pick_t rfl rfl) ?_
    refine wl_det rfl rfl rfl (op_assign rfl) ?_
    refine wl_nil ?_
    refine st_tn ?_
    refine w_ret ?_
    refine st_ret (vs := [_]) [] Try.results4 ⟨rfl, trivial⟩ rfl ?_
    refine ⟨_, rfl, ?_⟩
    exact ⟨rfl, rfl⟩

theorem lawFull_any {σ : World} {F : List Res} (x y : Int) (hx : 0 ≤ x ∧ x ≤ 255) (hy : 0 ≤ y ∧ y ≤ 255) : FnT Try.prog σ F 4 [.int .u8 x, .int .u8 y] [] (fun u ρ => u = .bool true ∧ ρ = []) := by
  obtain ⟨a, rfl⟩ := Int.eq_ofNat_of_zero_le hx.1
  obtain ⟨b, rfl⟩ := Int.eq_ofNat_of_zero_le hy.1
  exact full_any a b (by omega) (by omega)
end Go.Proofs.Ytbpihhaiechnbaa
