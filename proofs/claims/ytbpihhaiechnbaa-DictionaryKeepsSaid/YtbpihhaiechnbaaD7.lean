/- Contracts: Encode (layer 6). Conditions: none. -/
import Derived.Test.YtbpihhaiechnbaaD6
namespace Go.Proofs.Ytbpihhaiechnbaa
open Go Go.SL Go.RowKit Go.DicM
set_option linter.unusedVariables false
set_option linter.unusedSimpArgs false
theorem tL30_1g : zerosB Try.prog 30 5 1 1 = some [Value.int .u8 0] := by kernel_rfl
theorem tL30_2g : zerosB Try.prog 30 5 1 2 = some [Value.int .u8 0, Value.int .u8 0] := by kernel_rfl
theorem tM30g : makeB Try.prog 30 5 1 = some (Value.int .u8 0) := by kernel_rfl
theorem tMixg : Try.prog.follows .mixedOrders = true := by kernel_rfl
theorem tO5g : oneB Try.prog 5 = true := by kernel_rfl
theorem tO9g : oneB Try.prog 9 = true := by kernel_rfl
theorem tP30g : appB Try.prog 30 5 1 1 = true := by kernel_rfl
theorem tS22g : sliceB Try.prog 22 9 1 = true := by kernel_rfl
theorem tS30g : sliceB Try.prog 30 5 1 = true := by kernel_rfl

theorem put1 {p buf : List UInt8} {k : Nat} (v : UInt8) (h : buf.take k = p) (hk : k < buf.length) : (buf.set k v).take (k + 1) = p ++ [v] := by
  rw [take_snoc (x := v) (by rw [List.getElem?_set]; simp [hk]), List.take_set, List.set_eq_of_length_le (by rw [List.length_take]; omega), h]
theorem put2 {p B s R : List UInt8} {k : Nat} (h : B.take k = p) (hk : k ≤ B.length) : (B.take k ++ s ++ R).take (k + s.length) = p ++ s := by
  rw [List.take_append_of_le_length (by rw [List.length_append, List.length_take]; omega), List.take_of_length_le (by rw [List.length_append, List.length_take]; omega), h]
theorem enc_ge (d : List Bs) : 2 ≤ (enc d).length := by have := encTo_mono d (Nat.zero_le d.length); exact this
set_option maxHeartbeats 2000000 in
set_option maxRecDepth 100000 in
theorem renc_any {σ : World} {F : List Res} {a : Option Addr} {c : Nat} {l : List Bs} (h : Sl σ F encT 1 (.slice a l.length c) l) (hv : ∀ x ∈ l, x.length ≤ 255) (hl : l.length ≤ 4096) :
    FnT Try.prog σ F 40 [.slice a l.length c] [] (fun u ρ => u = .string (str (enc l)) ∧ ρ = []) := by
  refine fn_of 61 Try.func40 rfl Try.ntmps40 rfl ?_
  have hle := h.i64
  refine w_seq ?_
  refine w_region ?_
  refine wl_det rfl rfl rfl (op_assign rfl) ?_
  refine wl_nil ?_
  refine st_tn ?_
  refine w_seq ?_
  refine w_region ?_
  refine wl_det rfl rfl rfl (op_move rfl) ?_
  refine wl_det rfl rfl rfl (op_lenT rfl tS22g (Sl.ent (by first | exact Sl.app (by assumption) _ | exact Sl.app (Sl.app (by assumption) _) _))) ?_
  refine wl_det rfl rfl rfl (op_quoN rfl rfl (by omega) (by omega) (by omega)) ?_
  refine wl_det rfl rfl rfl (op_val (v' := .int .u8 ((UInt8.ofNat (l.length / 256)).toNat : Nat)) (by rw [show ((l.length : Int) / 256).toNat = l.length / 256 by omega]) (op_convU rfl (by rw [Try.underlying3]; rfl) Try.underlying5 (by omega))) ?_
  refine wl_det rfl rfl rfl (op_move rfl) ?_
  refine wl_det rfl rfl rfl (op_lenT rfl tS22g (Sl.ent (by first | exact Sl.app (by assumption) _ | exact Sl.app (Sl.app (by assumption) _) _))) ?_
  refine wl_det rfl rfl rfl (op_remN rfl rfl (by omega) (by omega)) ?_
  refine wl_det rfl rfl rfl (op_val (v' := .int .u8 ((UInt8.ofNat (l.length % 256)).toNat : Nat)) (by rw [show ((l.length : Int) % 256).toNat = l.length % 256 by omega]) (op_convU rfl (by rw [Try.underlying3]; rfl) Try.underlying5 (by omega))) ?_
  refine wl_op [] rfl rfl rfl rfl (op_buildSlice (enc := encU) (l := [_, _]) (lab := 14) tL30_2g rfl rfl (fun _ => rfl) rfl) ?_
  rintro _ _ ⟨a14, c14, rfl, rfl⟩
  refine wl_det rfl rfl rfl (op_assign rfl) ?_
  refine wl_nil ?_
  refine st_tn ?_
  refine w_seq ?_
  refine w_seq ?_
  refine w_region ?_
  refine wl_det rfl rfl rfl (op_assign rfl) ?_
  refine wl_nil ?_
  refine st_tn ?_
  refine w_block ?_
  refine w_loopQ (X := List UInt8 × Option Addr × Nat × Nat) (fun z => z.2.2.2 ≤ l.length ∧ z.1 = encTo l z.2.2.2) (fun z => [(3, .slice (z.2.1) (z.1).length (z.2.2.1)), (4, .int .i64 (z.2.2.2))]) (fun z => [(14, slW 5 encU 1 (.slice (z.2.1) (z.1).length (z.2.2.1)) (z.1))]) (fun z => l.length - z.2.2.2) ((encTo l 0, _, _, 0)) [(0, _)] [] [14] rfl (rfl) (.cons rfl (.cons rfl (.nil _))) (.cons rfl (.nil _)) (by
      try dsimp only
      exact ⟨Nat.zero_le _, rfl⟩) ?_
  rintro ⟨out, a_out, c_out, i⟩ ⟨hi, ho⟩
  refine w_norm2 (by dsimp only [List.cons_append, List.nil_append]) (by dsimp only [List.cons_append, List.nil_append]) ?_
  try dsimp only at hi ho ⊢
  refine w_seq ?_
  refine w_seq ?_
  refine w_region ?_
  refine wl_det rfl rfl rfl (op_move rfl) ?_
  refine wl_det rfl rfl rfl (op_move rfl) ?_
  refine wl_det rfl rfl rfl (op_lenT rfl tS22g (Sl.ent (by first | exact Sl.app (by assumption) _ | exact Sl.app (Sl.app (by assumption) _) _))) ?_
  refine wl_det rfl rfl rfl (op_lss rfl rfl) ?_
  refine wl_nil ?_
  refine st_tn ?_
  refine w_cond_d rfl (fun hc18 => ?_) (fun hc18 => ?_)
  · -- c18.t
    obtain ⟨x, hx⟩ := getE (l := l) (i := i) (by omega)
    have hlt := ltE hx
    have hgx := getD_of (d := []) hx
    have hxl : x.length ≤ 255 := hv x (List.mem_of_getElem? hx)
    have h1 := encTo_len_le l hv i (by omega)
    rw [← ho] at h1
    refine w_skip ?_
    refine st_tn ?_
    refine w_seq ?_
    refine w_block ?_
    refine w_seq ?_
    refine w_region ?_
    refine wl_det rfl rfl rfl (op_assign rfl) ?_
    refine wl_nil ?_
    refine st_tn ?_
    refine w_seq ?_
    refine w_seq ?_
    refine w_region ?_
    refine wl_det rfl rfl rfl (op_move rfl) ?_
    refine wl_det rfl rfl rfl (op_remN rfl rfl (by omega) (by omega)) ?_
    refine wl_det rfl rfl rfl (op_neq rfl rfl) ?_
    refine wl_nil ?_
    refine st_tn ?_
    refine w_cond_d rfl (fun hc23 => ?_) (fun hc23 => ?_)
    · -- c23.t
      obtain ⟨y, hy⟩ := getE (l := l) (i := ((i : Int) - 1).toNat) (by omega)
      have hy' : l.getD (i - 1) [] = y := getD_of (by rw [show i - 1 = ((i : Int) - 1).toNat by omega]; exact hy)
      have hyl : y.length ≤ 255 := hv y (List.mem_of_getElem? hy)
      have h5 : i % 16 ≠ 0 := by omega
      have h6 : nAt l i = common y x := by unfold nAt; rw [if_pos h5, hy', hgx]
      have h7 := common_le y x
      refine w_seq ?_
      refine w_drawW (fun β => [⟨24, [], [], [], noW (_), false, [], []⟩, ⟨25, [], [], [], noW (_), false, [], []⟩, ⟨26, [1], [], [], noW (_), false, [], []⟩, ⟨27, [0, 2], [], [], noW (_), false, [], []⟩, ⟨28, [3], [], [], noW (_), false, [], []⟩, ⟨29, [], [], [], noW (_), false, [], []⟩, ⟨30, [], [], [], noW (_), false, [], []⟩, ⟨31, [5, 6], [], [], noW (_), false, [], []⟩, ⟨32, [7], [], [], noW (_), false, [], []⟩]) [] [0, 4] [⟨24, [], [], false, [], []⟩, ⟨25, [], [], false, [], []⟩, ⟨26, [1], [], false, [], []⟩, ⟨27, [0, 2], [], false, [], []⟩, ⟨28, [3], [], false, [], []⟩, ⟨29, [], [], false, [], []⟩, ⟨30, [], [], false, [], []⟩, ⟨31, [5, 6], [], false, [], []⟩, ⟨32, [7], [], false, [], []⟩] [[], [], [], [], [], [], [], [], []] [[], [], [], [], [], [], [], [], []] tMixg (fun _ => by rfl) (fun _ => by rfl) (by kernel_rfl) (by kernel_rfl) (by rfl) (by rfl)
          (fun β => ⟨.p rfl (by intro X; exact op_move rfl),
          ⟨.p rfl (by intro X; exact op_move rfl),
          ⟨.p rfl (by intro X; rintro _ _ ⟨rfl, rfl⟩; exact op_sub' rfl rfl (by omega)),
          ⟨.p rfl (by intro X; rintro _ _ ⟨rfl, rfl⟩ _ _ ⟨rfl, rfl⟩; exact op_idxZ rfl rfl tS22g (Sl.ent (by first | exact Sl.app (by assumption) _ | exact Sl.app (Sl.app (by assumption) _) _)) (by omega) (by omega)),
          ⟨.p rfl (by intro X; rintro _ _ ⟨rfl, rfl⟩; exact op_ldx rfl tO9g (by first | exact Sl.app (by assumption) _ | exact Sl.app (Sl.app (by assumption) _) _) (by assumption) (by rfl)),
          ⟨.p rfl (by intro X; exact op_move rfl),
          ⟨.p rfl (by intro X; exact op_move rfl),
          ⟨.p rfl (by intro X; rintro _ _ ⟨rfl, rfl⟩ _ _ ⟨rfl, rfl⟩; exact op_idx rfl rfl tS22g (Sl.ent (by first | exact Sl.app (by assumption) _ | exact Sl.app (Sl.app (by assumption) _) _)) (by omega)),
          ⟨.p rfl (by intro X; rintro _ _ ⟨rfl, rfl⟩; exact op_ldx rfl tO9g (by first | exact Sl.app (by assumption) _ | exact Sl.app (Sl.app (by assumption) _) _) (by assumption) (by rfl)),
          trivial⟩⟩⟩⟩⟩⟩⟩⟩⟩)
          (fun β β' => ⟨fun _ => by rfl, ⟨fun _ => by rfl, ⟨fun _ => by rfl, ⟨fun _ => by rfl, ⟨fun _ => by rfl, ⟨fun _ => by rfl, ⟨fun _ => by rfl, ⟨fun _ => by rfl, ⟨fun _ => by rfl, trivial⟩⟩⟩⟩⟩⟩⟩⟩⟩) ?_
      intro β
      rintro _ _ ⟨rfl, rfl⟩ _ _ ⟨rfl, rfl⟩ _ _ ⟨rfl, rfl⟩ _ _ ⟨rfl, rfl⟩ _ _ ⟨rfl, rfl⟩ _ _ ⟨rfl, rfl⟩ _ _ ⟨rfl, rfl⟩ _ _ ⟨rfl, rfl⟩ _ _ ⟨rfl, rfl⟩
      refine wl_norm (e' := [(0, _), (3, _), (4, _), (28, _), (32, _)]) (.cons rfl (.cons rfl (.cons rfl (.cons rfl (.cons rfl (.nil _)))))) (by dsimp only [cond_false, cond_true, List.nil_append, List.cons_append]) ?_
      refine wl_det rfl rfl rfl (op_fn Try.func52 rfl rfl rfl (rcommon_any _ _ (by omega))) ?_
      refine wl_det rfl rfl rfl (op_assign rfl) ?_
      refine wl_nil ?_
      refine st_tn ?_
      refine w_region ?_
      refine wl_det rfl rfl rfl (op_move rfl) ?_
      refine wl_det rfl rfl rfl (op_move rfl) ?_
      refine wl_det rfl rfl rfl (op_val (v' := .int .u8 ((UInt8.ofNat (common y x)).toNat : Nat)) (by rfl) (op_convU rfl (by rw [Try.underlying3]; rfl) Try.underlying5 (by omega))) ?_
      refine wl_op [] rfl rfl rfl rfl (op_buildSlice (enc := encU) (l := [_]) (lab := 37) tL30_1g rfl rfl (fun _ => rfl) rfl) ?_
      rintro _ _ ⟨a37, c37, rfl, rfl⟩
      refine wl_op [14] rfl rfl rfl rfl (op_append (lab := 14) (lab' := 38) rfl rfl tP30g enc1U (Sl.lab 37 rfl (by simp [maxLen])) (by simp; omega) (by simp; omega)) ?_
      rintro _ _ ⟨a38, c38, rfl, rfl⟩
      refine wl_det rfl rfl rfl (op_assign rfl) ?_
      refine wl_nil ?_
      refine st_tn ?_
      refine w_seq ?_
      refine w_region ?_
      refine wl_det rfl rfl rfl (op_move rfl) ?_
      refine wl_det rfl rfl rfl (op_move rfl) ?_
      refine wl_det rfl rfl rfl (op_move rfl) ?_
      refine wl_det rfl rfl rfl (op_idx rfl rfl tS22g (Sl.ent (by first | exact Sl.app (by assumption) _ | exact Sl.app (Sl.app (by assumption) _) _)) (by omega)) ?_
      refine wl_det rfl rfl rfl (op_ldx rfl tO9g (by first | exact Sl.app (by assumption) _ | exact Sl.app (Sl.app (by assumption) _) _) (by assumption) (by rfl)) ?_
      refine wl_det rfl rfl rfl (op_lenBs rfl Try.underlying9) ?_
      refine wl_det rfl rfl rfl (op_move rfl) ?_
      refine wl_det rfl rfl rfl (op_sub' rfl rfl (by omega)) ?_
      refine wl_det rfl rfl rfl (op_val (v' := .int .u8 ((UInt8.ofNat (x.length - common y x)).toNat : Nat)) (by rw [show ((x.length : Int) - common y x).toNat = x.length - common y x by omega]) (op_convU rfl (by rw [Try.underlying3]; rfl) Try.underlying5 (by omega))) ?_
      refine wl_op [] rfl rfl rfl rfl (op_buildSlice (enc := encU) (l := [_]) (lab := 48) tL30_1g rfl rfl (fun _ => rfl) rfl) ?_
      rintro _ _ ⟨a48, c48, rfl, rfl⟩
      refine wl_op [38] rfl rfl rfl rfl (op_append (lab := 38) (lab' := 49) rfl rfl tP30g enc1U (Sl.lab 48 rfl (by simp [maxLen])) (by simp; omega) (by simp; omega)) ?_
      rintro _ _ ⟨a49, c49, rfl, rfl⟩
      refine wl_det rfl rfl rfl (op_assign rfl) ?_
      refine wl_nil ?_
      refine st_tn ?_
      refine w_region ?_
      refine wl_det rfl rfl rfl (op_move rfl) ?_
      refine wl_det rfl rfl rfl (op_move rfl) ?_
      refine wl_det rfl rfl rfl (op_move rfl) ?_
      refine wl_det rfl rfl rfl (op_idx rfl rfl tS22g (Sl.ent (by first | exact Sl.app (by assumption) _ | exact Sl.app (Sl.app (by assumption) _) _)) (by omega)) ?_
      refine wl_det rfl rfl rfl (op_ldx rfl tO9g (by first | exact Sl.app (by assumption) _ | exact Sl.app (Sl.app (by assumption) _) _) (by assumption) (by rfl)) ?_
      refine wl_det rfl rfl rfl (op_move rfl) ?_
      refine wl_det rfl rfl rfl (op_sliceLBs rfl rfl Try.underlying9 (by omega)) ?_
      refine wl_op [] rfl rfl rfl rfl (op_strBytes (lab := 57) rfl Try.underlying9 Try.underlying30 Try.underlying5 (by unfold maxLen; simp; omega)) ?_
      rintro _ _ ⟨g57, c57, rfl, rfl⟩
      refine wl_op [49] rfl rfl rfl rfl (op_append (lab := 49) (lab' := 58) rfl rfl tP30g enc1U (Sl.labStr 57 rfl (by unfold maxLen; simp; omega)) (by simp; omega) (by simp; omega)) ?_
      rintro _ _ ⟨a58, c58, rfl, rfl⟩
      refine wl_det rfl rfl rfl (op_assign rfl) ?_
      refine wl_nil ?_
      refine st_bn ?_
      refine st_tn ?_
      refine w_region ?_
      refine wl_det rfl rfl rfl (op_move rfl) ?_
      refine wl_det rfl rfl rfl (op_add' rfl rfl (by omega)) ?_
      refine wl_det rfl rfl rfl (op_assign rfl) ?_
      refine wl_nil ?_
      refine st_roundQ (x := (out, a_out, c_out, i)) ((_, _, _, i + 1)) [58] rfl (rfl) (.cons rfl (.cons rfl (.nil _))) (.cons rfl (.nil _)) (by
          try dsimp only
          refine ⟨by omega, ?_⟩
          show _ = encTo l i ++ encAt l i
          unfold encAt
          rw [hgx, if_pos h5, h6, ho]; simp) (by
          try dsimp only
          omega) 
    · -- c23.f
      have h5 : ¬ i % 16 ≠ 0 := by omega
      have h6 : nAt l i = 0 := by unfold nAt; rw [if_neg h5]
      refine w_skip ?_
      refine st_tn ?_
      refine w_seq ?_
      refine w_region ?_
      refine wl_det rfl rfl rfl (op_move rfl) ?_
      refine wl_det rfl rfl rfl (op_move rfl) ?_
      refine wl_det rfl rfl rfl (op_move rfl) ?_
      refine wl_det rfl rfl rfl (op_idx rfl rfl tS22g (Sl.ent (by first | exact Sl.app (by assumption) _ | exact Sl.app (Sl.app (by assumption) _) _)) (by omega)) ?_
      refine wl_det rfl rfl rfl (op_ldx rfl tO9g (by first | exact Sl.app (by assumption) _ | exact Sl.app (Sl.app (by assumption) _) _) (by assumption) (by rfl)) ?_
      refine wl_det rfl rfl rfl (op_lenBs rfl Try.underlying9) ?_
      refine wl_det rfl rfl rfl (op_move rfl) ?_
      refine wl_det rfl rfl rfl (op_sub' rfl rfl (by omega)) ?_
      refine wl_det rfl rfl rfl (op_val (v' := .int .u8 ((UInt8.ofNat (x.length - 0)).toNat : Nat)) (by rw [show ((x.length : Int) - 0).toNat = x.length - 0 by omega]) (op_convU rfl (by rw [Try.underlying3]; rfl) Try.underlying5 (by omega))) ?_
      refine wl_op [] rfl rfl rfl rfl (op_buildSlice (enc := encU) (l := [_]) (lab := 48) tL30_1g rfl rfl (fun _ => rfl) rfl) ?_
      rintro _ _ ⟨a48, c48, rfl, rfl⟩
      refine wl_op [14] rfl rfl rfl rfl (op_append (lab := 14) (lab' := 49) rfl rfl tP30g enc1U (Sl.lab 48 rfl (by simp [maxLen])) (by simp; omega) (by simp; omega)) ?_
      rintro _ _ ⟨a49, c49, rfl, rfl⟩
      refine wl_det rfl rfl rfl (op_assign rfl) ?_
      refine wl_nil ?_
      refine st_tn ?_
      refine w_region ?_
      refine wl_det rfl rfl rfl (op_move rfl) ?_
      refine wl_det rfl rfl rfl (op_move rfl) ?_
      refine wl_det rfl rfl rfl (op_move rfl) ?_
      refine wl_det rfl rfl rfl (op_idx rfl rfl tS22g (Sl.ent (by first | exact Sl.app (by assumption) _ | exact Sl.app (Sl.app (by assumption) _) _)) (by omega)) ?_
      refine wl_det rfl rfl rfl (op_ldx rfl tO9g (by first | exact Sl.app (by assumption) _ | exact Sl.app (Sl.app (by assumption) _) _) (by assumption) (by rfl)) ?_
      refine wl_det rfl rfl rfl (op_move rfl) ?_
      refine wl_det rfl rfl rfl (op_sliceLBs (lo := 0) rfl rfl Try.underlying9 (by omega)) ?_
      refine wl_op [] rfl rfl rfl rfl (op_strBytes (lab := 57) rfl Try.underlying9 Try.underlying30 Try.underlying5 (by unfold maxLen; simp; omega)) ?_
      rintro _ _ ⟨g57, c57, rfl, rfl⟩
      refine wl_op [49] rfl rfl rfl rfl (op_append (lab := 49) (lab' := 58) rfl rfl tP30g enc1U (Sl.labStr 57 rfl (by unfold maxLen; simp; omega)) (by simp; omega) (by simp; omega)) ?_
      rintro _ _ ⟨a58, c58, rfl, rfl⟩
      refine wl_det rfl rfl rfl (op_assign rfl) ?_
      refine wl_nil ?_
      refine st_bn ?_
      refine st_tn ?_
      refine w_region ?_
      refine wl_det rfl rfl rfl (op_move rfl) ?_
      refine wl_det rfl rfl rfl (op_add' rfl rfl (by omega)) ?_
      refine wl_det rfl rfl rfl (op_assign rfl) ?_
      refine wl_nil ?_
      refine st_roundQ (x := (out, a_out, c_out, i)) ((_, _, _, i + 1)) [58] rfl (rfl) (.cons rfl (.cons rfl (.nil _))) (.cons rfl (.nil _)) (by
          try dsimp only
          refine ⟨by omega, ?_⟩
          show _ = encTo l i ++ encAt l i
          unfold encAt
          rw [hgx, if_neg h5, h6, ho]; simp) (by
          try dsimp only
          omega) 
  · -- c18.f
    refine w_exit ?_
    refine st_te ?_
    refine st_te ?_
    refine st_be ?_
    refine st_tn ?_
    refine w_seq ?_
    have hil : i = l.length := by omega
    have h1 := encTo_len_le l hv i (by omega)
    rw [← ho] at h1
    refine w_region ?_
    refine wl_det rfl rfl rfl (op_move rfl) ?_
    refine wl_det rfl rfl rfl (op_bytesStr rfl Try.underlying30 Try.underlying5 Try.underlying9 (Sl.lab 14 rfl (by unfold maxLen; omega))) ?_
    refine wl_det rfl rfl rfl (op_assign rfl) ?_
    refine wl_nil ?_
    refine st_tn ?_
    refine w_ret ?_
    refine st_ret (vs := [_]) [] Try.results40 ⟨rfl, trivial⟩ rfl ?_
    refine ⟨_, rfl, ?_⟩
    rw [ho, hil]; exact ⟨rfl, rfl⟩

set_option maxHeartbeats 2000000 in
set_option maxRecDepth 100000 in
theorem enc_any {σ : World} {F : List Res} {a : Option Addr} {c : Nat} {l : List Bs} (h : Sl σ F encT 1 (.slice a l.length c) l) (hl : l.length ≤ 1048576) (hv : chkE l = 0 → (∀ x ∈ l, x.length ≤ 255) ∧ l.length ≤ 4096) :
    FnT Try.prog σ F 39 [.slice a l.length c] [] (fun u ρ => u = .tuple #[.string (str (if chkE l = 0 then enc l else [])), .int .i64 (chkE l)] ∧ ρ = []) := by
  refine fn_of 74 Try.func39 rfl Try.ntmps39 rfl ?_
  have hle := h.i64
  refine w_seq ?_
  refine w_region ?_
  refine wl_det rfl rfl rfl (op_assign rfl) ?_
  refine wl_det rfl rfl rfl (op_assign rfl) ?_
  refine wl_nil ?_
  refine st_tn ?_
  refine w_seq ?_
  refine w_seq ?_
  refine w_region ?_
  refine wl_det rfl rfl rfl (op_move rfl) ?_
  refine wl_det rfl rfl rfl (op_fn Try.func17 rfl rfl rfl (check_any (by first | exact Sl.app (by assumption) _ | exact Sl.app (Sl.app (by assumption) _) _) (by omega))) ?_
  refine wl_det rfl rfl rfl (op_assign rfl) ?_
  refine wl_nil ?_
  refine st_tn ?_
  refine w_seq ?_
  refine w_region ?_
  refine wl_det rfl rfl rfl (op_move rfl) ?_
  refine wl_det rfl rfl rfl (op_neq rfl rfl) ?_
  refine wl_nil ?_
  refine st_tn ?_
  refine w_cond_d rfl (fun hc13 => ?_) (fun hc13 => ?_)
  · -- c13.t
    refine w_seq ?_
    refine w_region ?_
    refine wl_det rfl rfl rfl (op_move rfl) ?_
    refine wl_det rfl rfl rfl (op_assign rfl) ?_
    refine wl_det rfl rfl rfl (op_assign rfl) ?_
    refine wl_nil ?_
    refine st_tn ?_
    refine w_ret ?_
    refine st_tr ?_
    refine st_ret (vs := [_, _]) [] Try.results39 ⟨rfl, ⟨rfl, trivial⟩⟩ rfl ?_
    refine ⟨_, rfl, ?_⟩
    rw [if_neg hc13]; exact ⟨rfl, rfl⟩
  · -- c13.f
    refine w_skip ?_
    refine st_tn ?_
    refine w_seq ?_
    have h00 : chkE l = 0 := Classical.not_not.1 hc13
    obtain ⟨hv, hl'⟩ := hv h00
    have hel := encTo_len_le l hv l.length (Nat.le_refl _)
    have hge := enc_ge l
    have hel' : (enc l).length ≤ 2 + 257 * l.length := hel
    have hx0 : (List.replicate (enc l).length (0 : UInt8))[0]? = some 0 := by rw [List.getElem?_replicate, if_pos (by omega)]
    have hx1 : ((List.replicate (enc l).length (0 : UInt8)).set 0 (UInt8.ofNat (l.length / 256)))[1]? = some 0 := by rw [List.getElem?_set, if_neg (by omega), List.getElem?_replicate, if_pos (by omega)]
    refine w_region ?_
    refine wl_det rfl rfl rfl (op_move rfl) ?_
    refine wl_det rfl rfl rfl (op_fn Try.func42 rfl rfl rfl (size_any (by first | exact Sl.app (by assumption) _ | exact Sl.app (Sl.app (by assumption) _) _) (by assumption) (by omega))) ?_
    refine wl_op [] rfl rfl rfl rfl (op_makeSlice (enc := encU) (a0 := 0) (lab := 17) rfl rfl tM30g (fun _ => rfl) rfl rfl (by omega) (by unfold maxLen; omega)) ?_
    rintro _ _ ⟨a17, c17, rfl, rfl⟩
    refine wl_det rfl rfl rfl (op_assign rfl) ?_
    refine wl_nil ?_
    refine st_tn ?_
    refine w_seq ?_
    refine w_region ?_
    refine wl_det rfl rfl rfl (op_move rfl) ?_
    refine wl_det rfl rfl rfl (op_move rfl) ?_
    refine wl_det rfl rfl rfl (op_move rfl) ?_
    refine wl_det rfl rfl rfl (op_lenT rfl tS22g (Sl.ent (by first | exact Sl.app (by assumption) _ | exact Sl.app (Sl.app (by assumption) _) _))) ?_
    refine wl_det rfl rfl rfl (op_shrC (c := 256) rfl rfl (by decide) (by decide)) ?_
    refine wl_det rfl rfl rfl (op_val (v' := .int .u8 ((UInt8.ofNat (l.length / 256)).toNat : Nat)) (by rw [show ((l.length : Int) / 256).toNat = l.length / 256 by omega]) (op_convU rfl (by rw [Try.underlying3]; rfl) Try.underlying5 (by omega))) ?_
    refine wl_det rfl rfl rfl (op_move rfl) ?_
    refine wl_det rfl rfl rfl (op_lenT rfl tS22g (Sl.ent (by first | exact Sl.app (by assumption) _ | exact Sl.app (Sl.app (by assumption) _) _))) ?_
    refine wl_det rfl rfl rfl (op_val (v' := .int .u8 ((UInt8.ofNat (l.length % 256)).toNat : Nat)) (by congr 2; show (UInt8.ofNat l.length).toNat = _; simp) (op_convU rfl (by rw [Try.underlying3]; rfl) Try.underlying5 (by omega))) ?_
    refine wl_det rfl rfl rfl (op_idx rfl rfl tS30g (Sl.ent (Sl.lab 17 rfl (by unfold maxLen; simp; omega))) (by simp; omega)) ?_
    refine wl_op0 [17] rfl rfl rfl (op_storeX (lab := 17) (j := 0) rfl rfl tO5g rfl rfl (by rfl) (by first | assumption | (simp [*]; done)) (Nat.le_of_ble_eq_true rfl) (by rfl)) ?_
    rintro _ _ ⟨rfl, rfl⟩
    refine wl_det rfl rfl rfl (op_idx rfl rfl tS30g (Sl.ent (Sl.lab 17 rfl (by unfold maxLen; simp; omega))) (by simp; omega)) ?_
    refine wl_op0 [17] rfl rfl rfl (op_storeX (lab := 17) (j := 0) rfl rfl tO5g rfl rfl (by rfl) (by first | assumption | (simp [*]; done)) (Nat.le_of_ble_eq_true rfl) (by rfl)) ?_
    rintro _ _ ⟨rfl, rfl⟩
    refine wl_nil ?_
    refine st_tn ?_
    refine w_seq ?_
    refine w_region ?_
    refine wl_det rfl rfl rfl (op_assign rfl) ?_
    refine wl_nil ?_
    refine st_tn ?_
    refine w_seq ?_
    refine w_seq ?_
    refine w_region ?_
    refine wl_det rfl rfl rfl (op_move rfl) ?_
    refine wl_det rfl rfl rfl (op_lenT rfl tS22g (Sl.ent (by first | exact Sl.app (by assumption) _ | exact Sl.app (Sl.app (by assumption) _) _))) ?_
    refine wl_det rfl rfl rfl (op_move rfl) ?_
    refine wl_nil ?_
    refine st_tn ?_
    refine w_block ?_
    refine w_loopQ (X := Nat × Nat × List UInt8) (fun z => z.2.1 ≤ l.length ∧ z.2.2.length = (enc l).length ∧ z.1 = (encTo l z.2.1).length ∧ z.2.2.take z.1 = encTo l z.2.1) (fun z => [(6, .int .i64 (z.1)), (31, .int .i64 (z.2.1))]) (fun z => [(17, slW 5 encU 1 (.slice a17 ((List.replicate (enc l).length (0 : UInt8)).length) c17) (z.2.2))]) (fun z => l.length - z.2.1) ((2, 0, _)) [(0, _), (5, _), (29, _), (30, _)] [] [17] rfl (rfl) (.cons rfl (.cons rfl (.nil _))) (.cons rfl (.cons rfl (.cons rfl (.cons rfl (.nil _))))) (by
        try dsimp only
        refine ⟨Nat.zero_le _, by simp, rfl, ?_⟩
        have e1 := put1 (p := []) (buf := List.replicate (enc l).length (0 : UInt8)) (k := 0) (UInt8.ofNat (l.length / 256)) rfl (by rw [List.length_replicate]; omega)
        have e2 := put1 (k := 1) (UInt8.ofNat (l.length % 256)) e1 (by rw [List.length_set, List.length_replicate]; omega)
        exact e2) ?_
    rintro ⟨k, i, buf⟩ ⟨hi, hbl, hk, ht⟩
    refine w_norm2 (by dsimp only [List.cons_append, List.nil_append]) (by dsimp only [List.cons_append, List.nil_append]) ?_
    try dsimp only at hi hbl hk ht ⊢
    refine w_seq ?_
    refine w_region ?_
    refine wl_det rfl rfl rfl (op_lss rfl rfl) ?_
    refine wl_nil ?_
    refine st_tn ?_
    refine w_seq ?_
    refine w_cond_d rfl (fun hc32 => ?_) (fun hc32 => ?_)
    · -- c32.t
      obtain ⟨x, hx⟩ := getE (l := l) (i := i) (by omega)
      have hlt := ltE hx
      have hgx := getD_of (d := []) hx
      have hxl : x.length ≤ 255 := hv x (List.mem_of_getElem? hx)
      have h1 := encTo_len_le l hv i (by omega)
      have h2 := encAt_len l i
      have h3 : (encTo l (i + 1)).length = (encTo l i).length + (encAt l i).length := by show (encTo l i ++ encAt l i).length = _; rw [List.length_append]
      have h4 := nAt_le l i
      have h9 : (encTo l (i + 1)).length ≤ (enc l).length := encTo_mono l (by omega)
      rw [hgx] at h2 h4
      refine w_skip ?_
      refine st_tn ?_
      refine w_seq ?_
      refine w_block ?_
      refine w_seq ?_
      refine w_region ?_
      refine wl_det rfl rfl rfl (op_move rfl) ?_
      refine wl_det rfl rfl rfl (op_idx rfl rfl tS22g (Sl.ent (by first | exact Sl.app (by assumption) _ | exact Sl.app (Sl.app (by assumption) _) _)) (by omega)) ?_
      refine wl_det rfl rfl rfl (op_ldx rfl tO9g (by first | exact Sl.app (by assumption) _ | exact Sl.app (Sl.app (by assumption) _) _) (by assumption) (by rfl)) ?_
      refine wl_det rfl rfl rfl (op_assign rfl) ?_
      refine wl_det rfl rfl rfl (op_assign rfl) ?_
      refine wl_nil ?_
      refine st_tn ?_
      refine w_seq ?_
      refine w_seq ?_
      refine w_region ?_
      refine wl_det rfl rfl rfl (op_move rfl) ?_
      refine wl_det rfl rfl rfl (op_remN rfl rfl (by omega) (by omega)) ?_
      refine wl_det rfl rfl rfl (op_neq rfl rfl) ?_
      refine wl_nil ?_
      refine st_tn ?_
      refine w_cond_d rfl (fun hc38 => ?_) (fun hc38 => ?_)
      · -- c38.t
        obtain ⟨y, hy⟩ := getE (l := l) (i := ((i : Int) - 1).toNat) (by omega)
        have hy' : l.getD (i - 1) [] = y := getD_of (by rw [show i - 1 = ((i : Int) - 1).toNat by omega]; exact hy)
        have hyl : y.length ≤ 255 := hv y (List.mem_of_getElem? hy)
        have h5 : i % 16 ≠ 0 := by omega
        have h6 : nAt l i = common y x := by unfold nAt; rw [if_pos h5, hy', hgx]
        have h7 := common_le y x
        rw [if_pos h5] at h2
        have h8 : (x.drop (common y x)).length = x.length - common y x := by simp
        obtain ⟨b0, hb0⟩ := getE (l := buf) (i := k) (by omega)
        obtain ⟨b1, hb1⟩ := getE (l := buf.set k (UInt8.ofNat (common y x))) (i := k + 1) (by rw [List.length_set]; omega)
        refine w_seq ?_
        refine w_region ?_
        refine wl_det rfl rfl rfl (op_move rfl) ?_
        refine wl_det rfl rfl rfl (op_move rfl) ?_
        refine wl_det rfl rfl rfl (op_sub' rfl rfl (by omega)) ?_
        refine wl_det rfl rfl rfl (op_idxZ rfl rfl tS22g (Sl.ent (by first | exact Sl.app (by assumption) _ | exact Sl.app (Sl.app (by assumption) _) _)) (by omega) (by omega)) ?_
        refine wl_det rfl rfl rfl (op_ldx rfl tO9g (by first | exact Sl.app (by assumption) _ | exact Sl.app (Sl.app (by assumption) _) _) (by assumption) (by rfl)) ?_
        refine wl_det rfl rfl rfl (op_move rfl) ?_
        refine wl_det rfl rfl rfl (op_fn Try.func51 rfl rfl rfl (common_any _ _ (by omega))) ?_
        refine wl_det rfl rfl rfl (op_assign rfl) ?_
        refine wl_nil ?_
        refine st_tn ?_
        refine w_seq ?_
        refine w_drawW (fun β => [⟨46, [], [], [], noW (_), false, [], []⟩, ⟨47, [], [], [], noW (_), false, [], []⟩, ⟨48, [], [], [], noW (_), false, [], []⟩, ⟨49, [2], [], [], noW (_), false, [], []⟩, ⟨50, [], [], [], noW (_), false, [], []⟩, ⟨51, [], [], [], noW (_), false, [], []⟩, ⟨52, [4, 5], [], [], noW (_), false, [], []⟩, ⟨53, [0, 1], [], [], noW (_), false, [8], []⟩, ⟨82, [7, 3], [], [(17, _)], noW (_), false, [], []⟩]) [17] [5, 6, 9, 8] [⟨46, [], [], false, [], []⟩, ⟨47, [], [], false, [], []⟩, ⟨48, [], [], false, [], []⟩, ⟨49, [2], [], false, [], []⟩, ⟨50, [], [], false, [], []⟩, ⟨51, [], [], false, [], []⟩, ⟨52, [4, 5], [], false, [], []⟩, ⟨53, [0, 1], [], false, [8], []⟩, ⟨82, [7, 3], [], false, [], []⟩] [[], [], [], [], [], [], [], [], []] [[], [], [], [], [], [], [], [], [(17, _)]] tMixg (fun _ => by rfl) (fun _ => by rfl) (by kernel_rfl) (by kernel_rfl) (by rfl) (by rfl)
            (fun β => ⟨.p rfl (by intro X; exact op_move rfl),
            ⟨.p rfl (by intro X; exact op_move rfl),
            ⟨.p rfl (by intro X; exact op_move rfl),
            ⟨.p rfl (by intro X; rintro _ _ ⟨rfl, rfl⟩; exact op_val (v' := .int .u8 ((UInt8.ofNat (common y x)).toNat : Nat)) (by rfl) (op_convU rfl (by rw [Try.underlying3]; rfl) Try.underlying5 (by omega))),
            ⟨.p rfl (by intro X; exact op_move rfl),
            ⟨.p rfl (by intro X; exact op_move rfl),
            ⟨.p rfl (by intro X; rintro _ _ ⟨rfl, rfl⟩ _ _ ⟨rfl, rfl⟩; exact op_sliceLBs rfl rfl Try.underlying9 (by omega)),
            ⟨.p rfl (by intro X; rintro _ _ ⟨rfl, rfl⟩ _ _ ⟨rfl, rfl⟩; exact op_idx rfl rfl tS30g (Sl.ent (Sl.lab 17 rfl (by unfold maxLen; simp; omega))) (by omega)),
            ⟨.p rfl (by intro X; rintro _ _ ⟨rfl, rfl⟩ _ _ ⟨rfl, rfl⟩; exact op_storeX (lab := 17) (j := 0) rfl rfl tO5g rfl rfl (by rfl) (by first | assumption | (simp [*]; done)) (Nat.le_of_ble_eq_true rfl) (by rfl)) (hu := by exact .inr fun _ _ h => h.1),
            trivial⟩⟩⟩⟩⟩⟩⟩⟩⟩)
            (fun β β' => ⟨fun _ => by rfl, ⟨fun _ => by rfl, ⟨fun _ => by rfl, ⟨fun _ => by rfl, ⟨fun _ => by rfl, ⟨fun _ => by rfl, ⟨fun _ => by rfl, ⟨fun _ => by rfl, ⟨fun _ => by rfl, trivial⟩⟩⟩⟩⟩⟩⟩⟩⟩) ?_
        intro β
        rintro _ _ ⟨rfl, rfl⟩ _ _ ⟨rfl, rfl⟩ _ _ ⟨rfl, rfl⟩ _ _ ⟨rfl, rfl⟩ _ _ ⟨rfl, rfl⟩ _ _ ⟨rfl, rfl⟩ _ _ ⟨rfl, rfl⟩ _ _ ⟨rfl, rfl⟩ _ _ ⟨rfl, rfl⟩
        refine wl_norm (e' := [(0, _), (5, _), (6, _), (29, _), (30, _), (31, _), (52, _)]) (.cons rfl (.cons rfl (.cons rfl (.cons rfl (.cons rfl (.cons rfl (.cons rfl (.nil _)))))))) (by dsimp only [cond_false, cond_true, List.nil_append, List.cons_append]) ?_
        refine wl_det rfl rfl rfl (op_assign rfl) ?_
        refine wl_nil ?_
        refine st_tn ?_
        refine w_region ?_
        refine wl_det rfl rfl rfl (op_move rfl) ?_
        refine wl_det rfl rfl rfl (op_add' rfl rfl (by omega)) ?_
        refine wl_det rfl rfl rfl (op_assign rfl) ?_
        refine wl_nil ?_
        refine st_tn ?_
        refine w_seq ?_
        refine w_region ?_
        refine wl_det rfl rfl rfl (op_move rfl) ?_
        refine wl_det rfl rfl rfl (op_move rfl) ?_
        refine wl_det rfl rfl rfl (op_move rfl) ?_
        refine wl_det rfl rfl rfl (op_lenBs rfl Try.underlying9) ?_
        refine wl_det rfl rfl rfl (op_val (v' := .int .u8 ((UInt8.ofNat (x.drop (common y x)).length).toNat : Nat)) (by rfl) (op_convU rfl (by rw [Try.underlying3]; rfl) Try.underlying5 (by omega))) ?_
        refine wl_det rfl rfl rfl (op_idx rfl rfl tS30g (Sl.ent (Sl.lab 17 rfl (by unfold maxLen; simp; omega))) (by first | omega | (simp; omega))) ?_
        refine wl_op0 [17] rfl rfl rfl (op_storeX (lab := 17) (j := 0) rfl rfl tO5g rfl rfl (by rfl) (by first | assumption | (simp [*]; done)) (Nat.le_of_ble_eq_true rfl) (by rfl)) ?_
        rintro _ _ ⟨rfl, rfl⟩
        refine wl_nil ?_
        refine st_tn ?_
        refine w_region ?_
        refine wl_det rfl rfl rfl (op_move rfl) ?_
        refine wl_det rfl rfl rfl (op_move rfl) ?_
        refine wl_det rfl rfl rfl (op_move rfl) ?_
        refine wl_det rfl rfl rfl (op_add' rfl rfl (by omega)) ?_
        refine wl_det rfl rfl rfl (op_sliceL rfl rfl tS30g (Sl.lab 17 rfl (by unfold maxLen; simp; omega)) (by first | omega | (simp; omega))) ?_
        refine wl_det rfl rfl rfl (op_move rfl) ?_
        refine wl_op [17] rfl rfl rfl rfl (op_copyS (lo := k + 1 + 1) (s := x.drop (common y x)) (buf := (buf.set k (UInt8.ofNat (common y x))).set (k + 1) (UInt8.ofNat (x.drop (common y x)).length)) rfl rfl tS30g (by simp; omega) (by simp; omega)) ?_
        rintro _ _ ⟨rfl, rfl⟩
        refine wl_det rfl rfl rfl (op_add' rfl rfl (by omega)) ?_
        refine wl_det rfl rfl rfl (op_add' rfl rfl (by omega)) ?_
        refine wl_det rfl rfl rfl (op_assign rfl) ?_
        refine wl_nil ?_
        refine st_bn ?_
        refine st_tn ?_
        refine w_region ?_
        refine wl_det rfl rfl rfl (op_add' rfl rfl (by omega)) ?_
        refine wl_det rfl rfl rfl (op_move rfl) ?_
        refine wl_nil ?_
        refine st_roundQ (x := (k, i, buf)) ((k + 1 + (1 + (x.drop (common y x)).length), i + 1, _)) [17] rfl (rfl) (.cons rfl (.cons rfl (.nil _))) (.cons rfl (.cons rfl (.cons rfl (.cons rfl (.nil _))))) (by
            try dsimp only
            have e1 := put1 (UInt8.ofNat (common y x)) ht (by omega)
            have e2 := put1 (UInt8.ofNat (x.drop (common y x)).length) e1 (by rw [List.length_set]; omega)
            have e3 := put2 (s := x.drop (common y x)) (R := ((buf.set k (UInt8.ofNat (common y x))).set (k + 1) (UInt8.ofNat (x.drop (common y x)).length)).drop (k + 1 + 1 + (x.drop (common y x)).length)) e2 (by rw [List.length_set, List.length_set]; omega)
            refine ⟨by omega, by simp; omega, by omega, ?_⟩
            rw [show k + 1 + (1 + (x.drop (common y x)).length) = k + 1 + 1 + (x.drop (common y x)).length by omega, e3]
            show _ = encTo l i ++ encAt l i
            unfold encAt
            rw [hgx, if_pos h5, h6, h8]; simp) (by
            try dsimp only
            omega) 
      · -- c38.f
        have h5 : ¬ i % 16 ≠ 0 := by omega
        have h6 : nAt l i = 0 := by unfold nAt; rw [if_neg h5]
        rw [if_neg h5] at h2
        obtain ⟨b0, hb0⟩ := getE (l := buf) (i := k) (by omega)
        refine w_skip ?_
        refine st_tn ?_
        refine w_seq ?_
        refine w_region ?_
        refine wl_det rfl rfl rfl (op_move rfl) ?_
        refine wl_det rfl rfl rfl (op_move rfl) ?_
        refine wl_det rfl rfl rfl (op_move rfl) ?_
        refine wl_det rfl rfl rfl (op_lenBs rfl Try.underlying9) ?_
        refine wl_det rfl rfl rfl (op_val (v' := .int .u8 ((UInt8.ofNat x.length).toNat : Nat)) (by rfl) (op_convU rfl (by rw [Try.underlying3]; rfl) Try.underlying5 (by omega))) ?_
        refine wl_det rfl rfl rfl (op_idx rfl rfl tS30g (Sl.ent (Sl.lab 17 rfl (by unfold maxLen; simp; omega))) (by first | omega | (simp; omega))) ?_
        refine wl_op0 [17] rfl rfl rfl (op_storeX (lab := 17) (j := 0) rfl rfl tO5g rfl rfl (by rfl) (by first | assumption | (simp [*]; done)) (Nat.le_of_ble_eq_true rfl) (by rfl)) ?_
        rintro _ _ ⟨rfl, rfl⟩
        refine wl_nil ?_
        refine st_tn ?_
        refine w_region ?_
        refine wl_det rfl rfl rfl (op_move rfl) ?_
        refine wl_det rfl rfl rfl (op_move rfl) ?_
        refine wl_det rfl rfl rfl (op_move rfl) ?_
        refine wl_det rfl rfl rfl (op_add' rfl rfl (by omega)) ?_
        refine wl_det rfl rfl rfl (op_sliceL rfl rfl tS30g (Sl.lab 17 rfl (by unfold maxLen; simp; omega)) (by first | omega | (simp; omega))) ?_
        refine wl_det rfl rfl rfl (op_move rfl) ?_
        refine wl_op [17] rfl rfl rfl rfl (op_copyS (lo := k + 1) (s := x) (buf := buf.set k (UInt8.ofNat x.length)) rfl rfl tS30g (by simp; omega) (by simp; omega)) ?_
        rintro _ _ ⟨rfl, rfl⟩
        refine wl_det rfl rfl rfl (op_add' rfl rfl (by omega)) ?_
        refine wl_det rfl rfl rfl (op_add' rfl rfl (by omega)) ?_
        refine wl_det rfl rfl rfl (op_assign rfl) ?_
        refine wl_nil ?_
        refine st_bn ?_
        refine st_tn ?_
        refine w_region ?_
        refine wl_det rfl rfl rfl (op_add' rfl rfl (by omega)) ?_
        refine wl_det rfl rfl rfl (op_move rfl) ?_
        refine wl_nil ?_
        refine st_roundQ (x := (k, i, buf)) ((k + (1 + x.length), i + 1, _)) [17] rfl (rfl) (.cons rfl (.cons rfl (.nil _))) (.cons rfl (.cons rfl (.cons rfl (.cons rfl (.nil _))))) (by
            try dsimp only
            have e2 := put1 (UInt8.ofNat x.length) ht (by omega)
            have e3 := put2 (s := x) (R := (buf.set k (UInt8.ofNat x.length)).drop (k + 1 + x.length)) e2 (by rw [List.length_set]; omega)
            refine ⟨by omega, by simp; omega, by omega, ?_⟩
            rw [show k + (1 + x.length) = k + 1 + x.length by omega, e3]
            show _ = encTo l i ++ encAt l i
            unfold encAt
            rw [hgx, if_neg h5, h6]; simp) (by
            try dsimp only
            omega) 
    · -- c32.f
      refine w_exit ?_
      refine st_te ?_
      refine st_te ?_
      refine st_be ?_
      refine st_tn ?_
      refine w_seq ?_
      have hil : i = l.length := by omega
      have hb : buf = enc l := by have := ht; rw [hk, hil] at this; exact ((List.take_of_length_le (by rw [hbl]; exact Nat.le_refl _)).symm.trans this)
      subst hb
      refine w_region ?_
      refine wl_det rfl rfl rfl (op_move rfl) ?_
      refine wl_det rfl rfl rfl (op_bytesStr rfl Try.underlying30 Try.underlying5 Try.underlying9 (Sl.lab 17 rfl (by unfold maxLen; simp; omega))) ?_
      refine wl_det rfl rfl rfl (op_assign rfl) ?_
      refine wl_det rfl rfl rfl (op_assign rfl) ?_
      refine wl_nil ?_
      refine st_tn ?_
      refine w_ret ?_
      refine st_ret (vs := [_, _]) [] Try.results39 ⟨rfl, ⟨rfl, trivial⟩⟩ rfl ?_
      refine ⟨_, rfl, ?_⟩
      rw [if_pos h00, h00]; exact ⟨rfl, rfl⟩

end Go.Proofs.Ytbpihhaiechnbaa
