/- Contracts: agrees, name (layer 26). Conditions: none. -/
import Derived.Test.YtjlbeakdgadpmaaD11
namespace Go.Proofs.Ytjlbeakdgadpmaa
open Go Go.SL Go.RowKit Go.DskM
set_option linter.unusedVariables false
set_option linter.unusedSimpArgs false
theorem tF36_0l : fieldB Try.prog 36 0 0 = true := by kernel_rfl
theorem tF36_1l : fieldB Try.prog 36 1 1 = true := by kernel_rfl
theorem tF36_3l : fieldB Try.prog 36 3 3 = true := by kernel_rfl
theorem tF51_0l : fieldB Try.prog 51 0 0 = true := by kernel_rfl
theorem tF51_1l : fieldB Try.prog 51 1 1 = true := by kernel_rfl
theorem tF51_2l : fieldB Try.prog 51 2 2 = true := by kernel_rfl
theorem tL48_8l : zerosB Try.prog 48 9 1 8 = some [Value.string .empty, Value.string .empty, Value.string .empty, Value.string .empty, Value.string .empty, Value.string .empty, Value.string .empty, Value.string .empty] := by kernel_rfl
theorem tMixl : Try.prog.follows .mixedOrders = true := by kernel_rfl
theorem tO3l : oneB Try.prog 3 = true := by kernel_rfl
theorem tO34l : oneB Try.prog 34 = true := by kernel_rfl
theorem tO4l : oneB Try.prog 4 = true := by kernel_rfl
theorem tO9l : oneB Try.prog 9 = true := by kernel_rfl
theorem tS34l : sliceB Try.prog 34 51 4 = true := by kernel_rfl
theorem tS48l : sliceB Try.prog 48 9 1 = true := by kernel_rfl

theorem read_at {s : St} (hg : DskM.Good s) (hdn : s.down = false) {p : Bs × Fl} (hp : p ∈ s.fs) (d : Bool) : readO s p.1 d = (if d = true then p.2.data.take p.2.syn else p.2.data, 0) := by
  have h1 : ¬ readyE s [p.1] ≠ 0 := by
    unfold readyE; rw [if_neg (by simp [hdn]), if_pos (by simp [hg.nam p hp])]; simp
  unfold readO
  rw [if_neg h1, find_of hg.inc hp]
set_option maxHeartbeats 4000000 in
set_option maxRecDepth 100000 in
theorem agrees_any {σ : World} {F : List Res} {b1 b2 m2 : Nat} {s : St} {a : Option Addr} {m c : Nat} {l : Files} {bs : List Nat} {ck : Nat} (hg : DskM.Good s) (hp : l.Perm s.fs) (hd1 : Ent σ F (At ⟨b1, 0, none⟩ (cellS s a m c))) (h : Sl σ F encM 4 (.slice a m c) s.fs) (hd2 : Ent σ F (At ⟨b2, 0, none⟩ (cellD s m2))) (hm : Me σ F KL encF m2 l bs ck) :
    FnT Try.prog σ F 18 [.pointer (some ⟨b1, 0, none⟩), .pointer (some ⟨b2, 0, none⟩)] [] (fun u ρ => u = .bool true ∧ ρ = []) := by
  refine fn_of 134 Try.func18 rfl Try.ntmps18 rfl ?_
  have hle := h.i64
  have hcnt := hg.cnt
  have hkl : (keysOf s.fs).length = s.fs.length := by simp [keysOf]
  refine w_seq ?_
  refine w_region ?_
  refine wl_det rfl rfl rfl (op_assign rfl) ?_
  refine wl_nil ?_
  refine st_tn ?_
  refine w_seq ?_
  refine w_region ?_
  refine wl_det rfl rfl rfl (op_move rfl) ?_
  refine wl_op [] rfl rfl rfl rfl (op_fn Try.func27 rfl rfl rfl (list_any 12 hg hp (Ent.app hd2 _) (Ent.app (Mr.ofMe hm) _))) ?_
  rintro _ _ ⟨a12, c12, rfl, rfl⟩
  refine wl_det rfl rfl rfl (op_assign rfl) ?_
  refine wl_nil ?_
  refine st_tn ?_
  refine w_seq ?_
  refine w_seq ?_
  refine w_drawW (fun β => [⟨13, [], [], [], noW (_), false, [], []⟩, ⟨14, [0], [], [], noW (_), false, [], []⟩, ⟨15, [], [], [], noW (_), false, [], []⟩, ⟨16, [2], [], [], noW (_), false, [], []⟩, ⟨17, [3], [], [], noW (_), false, [], []⟩, ⟨18, [4], [], [], noW (_), false, [], []⟩, ⟨19, [1, 5], [], [], noW (_), false, [], []⟩, ⟨20, [6], [], [], noW (_), false, [], []⟩, ⟨21, [], [], [], noW (_), false, [], []⟩, ⟨22, [8], [], [], noW (_), false, [], []⟩, ⟨23, [], [], [], noW (_), false, [], []⟩, ⟨24, [10], [], [], noW (_), false, [], []⟩, ⟨25, [11], [], [], noW (_), false, [], []⟩, ⟨26, [12], [], [], noW (_), false, [], []⟩, ⟨27, [9, 13], [], [], noW (_), false, [], []⟩, ⟨28, [7, 14], [], [], noW (_), false, [], []⟩]) [] [1, 0] [⟨13, [], [], false, [], []⟩, ⟨14, [0], [], false, [], []⟩, ⟨15, [], [], false, [], []⟩, ⟨16, [2], [], false, [], []⟩, ⟨17, [3], [], false, [], []⟩, ⟨18, [4], [], false, [], []⟩, ⟨19, [1, 5], [], false, [], []⟩, ⟨20, [6], [], false, [], []⟩, ⟨21, [], [], false, [], []⟩, ⟨22, [8], [], false, [], []⟩, ⟨23, [], [], false, [], []⟩, ⟨24, [10], [], false, [], []⟩, ⟨25, [11], [], false, [], []⟩, ⟨26, [12], [], false, [], []⟩, ⟨27, [9, 13], [], false, [], []⟩, ⟨28, [7, 14], [], false, [], []⟩] [[], [], [], [], [], [], [], [], [], [], [], [], [], [], [], []] [[], [], [], [], [], [], [], [], [], [], [], [], [], [], [], []] tMixl (fun _ => by rfl) (fun _ => by rfl) (by kernel_rfl) (by kernel_rfl) (by rfl) (by rfl)
      (fun β => ⟨.p rfl (by intro X; exact op_move rfl),
      ⟨.p rfl (by intro X; rintro _ _ ⟨rfl, rfl⟩; exact op_fn Try.func23 rfl rfl rfl (down_any s (Ent.app (Ent.app hd2 X) _))),
      ⟨.p rfl (by intro X; exact op_move rfl),
      ⟨.p rfl (by intro X; rintro _ _ ⟨rfl, rfl⟩; exact op_nilCheck rfl),
      ⟨.p rfl (by intro X; rintro _ _ ⟨rfl, rfl⟩; exact op_fieldAddr (off := 3) rfl tF36_3l),
      ⟨.p rfl (by intro X; rintro _ _ ⟨rfl, rfl⟩; exact op_load1 rfl tO4l (Ent.app (Ent.app (Ent.fld hd1 3) X) _)),
      ⟨.p rfl (by intro X; rintro _ _ ⟨rfl, rfl⟩ _ _ ⟨rfl, rfl⟩; exact op_val (v' := .bool false) (by simp) (op_neB rfl rfl Try.underlying4)),
      ⟨.p rfl (by intro X; rintro _ _ ⟨rfl, rfl⟩; exact op_move rfl),
      ⟨.w rfl rfl rfl (by rintro _ _ ⟨rfl, rfl⟩; rfl) (by intro X; exact op_move rfl),
      ⟨.w rfl rfl rfl (by rintro _ _ ⟨rfl, rfl⟩; rfl) (by intro X; rintro _ _ ⟨rfl, rfl⟩; exact op_fn Try.func34 rfl rfl rfl (cap_any s (Ent.app (Ent.app hd2 X) _))),
      ⟨.w rfl rfl rfl (by rintro _ _ ⟨rfl, rfl⟩; rfl) (by intro X; exact op_move rfl),
      ⟨.w rfl rfl rfl (by rintro _ _ ⟨rfl, rfl⟩; rfl) (by intro X; rintro _ _ ⟨rfl, rfl⟩; exact op_nilCheck rfl),
      ⟨.w rfl rfl rfl (by rintro _ _ ⟨rfl, rfl⟩; rfl) (by intro X; rintro _ _ ⟨rfl, rfl⟩; exact op_fieldAddr (off := 0) rfl tF36_0l),
      ⟨.w rfl rfl rfl (by rintro _ _ ⟨rfl, rfl⟩; rfl) (by intro X; rintro _ _ ⟨rfl, rfl⟩; exact op_load1 rfl tO3l (Ent.app (Ent.app (Ent.fld hd1 0) X) _)),
      ⟨.w rfl rfl rfl (by rintro _ _ ⟨rfl, rfl⟩; rfl) (by intro X; rintro _ _ ⟨rfl, rfl⟩ _ _ ⟨rfl, rfl⟩; exact op_val (v' := .bool false) (by simp) (op_neq rfl rfl)),
      ⟨.p rfl (by intro X; rintro _ _ ⟨rfl, rfl⟩ _ _ ⟨rfl, rfl⟩; exact op_pick_f rfl rfl),
      trivial⟩⟩⟩⟩⟩⟩⟩⟩⟩⟩⟩⟩⟩⟩⟩⟩)
      (fun β β' => ⟨fun _ => by rfl, ⟨fun _ => by rfl, ⟨fun _ => by rfl, ⟨fun _ => by rfl, ⟨fun _ => by rfl, ⟨fun _ => by rfl, ⟨fun _ => by rfl, ⟨fun _ => by rfl, ⟨fun _ => by rfl, ⟨fun _ => by rfl, ⟨fun _ => by rfl, ⟨fun _ => by rfl, ⟨fun _ => by rfl, ⟨fun _ => by rfl, ⟨fun _ => by rfl, ⟨fun _ => by rfl, trivial⟩⟩⟩⟩⟩⟩⟩⟩⟩⟩⟩⟩⟩⟩⟩⟩) ?_
  intro β
  rintro _ _ ⟨rfl, rfl⟩ _ _ ⟨rfl, rfl⟩ _ _ ⟨rfl, rfl⟩ _ _ ⟨rfl, rfl⟩ _ _ ⟨rfl, rfl⟩ _ _ ⟨rfl, rfl⟩ _ _ ⟨rfl, rfl⟩ _ _ ⟨rfl, rfl⟩ _ _ ⟨rfl, rfl⟩ _ _ ⟨rfl, rfl⟩ _ _ ⟨rfl, rfl⟩ _ _ ⟨rfl, rfl⟩ _ _ ⟨rfl, rfl⟩ _ _ ⟨rfl, rfl⟩ _ _ ⟨rfl, rfl⟩ _ _ ⟨rfl, rfl⟩
  refine wl_norm (e' := [(0, _), (1, _), (5, _), (28, _)]) (.cons rfl (.cons rfl (.cons rfl (.cons rfl (.nil _))))) (by dsimp only [cond_false, cond_true, List.nil_append, List.cons_append]) ?_
  refine wl_nil ?_
  refine st_tn ?_
  refine w_cond_f (rfl) ?_
  refine w_skip ?_
  refine st_tn ?_
  refine w_seq ?_
  refine w_seq ?_
  refine w_region ?_
  refine wl_det rfl rfl rfl (op_move rfl) ?_
  refine wl_det rfl rfl rfl (op_nilCheck rfl) ?_
  refine wl_det rfl rfl rfl (op_fieldAddr (off := 3) rfl tF36_3l) ?_
  refine wl_det rfl rfl rfl (op_load1 rfl tO4l (Ent.app (Ent.fld hd1 3) _)) ?_
  refine wl_nil ?_
  refine st_tn ?_
  refine w_cond rfl (fun hc32 => ?_) (fun hc32 => ?_)
  · -- c32.t
    have hlo : listO s = [] := by unfold listO; rw [if_pos hc32]
    have hlo0 : (listO s).length = 0 := by rw [hlo]; rfl
    refine w_seq ?_
    refine w_region ?_
    refine wl_det rfl rfl rfl (op_move rfl) ?_
    refine wl_det rfl rfl rfl (op_lenT rfl tS48l (Sl.ent (Sl.lab 12 rfl (by unfold maxLen; omega)))) ?_
    refine wl_det rfl rfl rfl (op_val (v' := .bool true) (by simp [hlo0]) (op_eql rfl rfl)) ?_
    refine wl_det rfl rfl rfl (op_move rfl) ?_
    refine wl_wanted_det rfl rfl rfl rfl rfl rfl rfl (op_move rfl) ?_
    refine wl_wanted_det rfl rfl rfl rfl rfl rfl rfl (op_fn Try.func16 rfl rfl rfl (used_any hg hp (Ent.app hd2 _) (Ent.app hm _))) ?_
    refine wl_wanted_det rfl rfl rfl rfl rfl rfl rfl (op_val (v' := .bool true) (by simp [hc32]) (op_eql rfl rfl)) ?_
    refine wl_det rfl rfl rfl (op_pick_t rfl rfl) ?_
    refine wl_det rfl rfl rfl (op_assign rfl) ?_
    refine wl_nil ?_
    refine st_tn ?_
    refine w_ret ?_
    refine st_tr ?_
    refine st_ret (vs := [_]) [] Try.results18 ⟨rfl, trivial⟩ rfl ?_
    refine ⟨_, rfl, ?_⟩
    exact ⟨rfl, rfl⟩
  · -- c32.f
    have hlo : listO s = keysOf s.fs := by unfold listO; rw [if_neg (by simp [hc32])]
    have hlo0 : (listO s).length = s.fs.length := by rw [hlo]; exact hkl
    refine w_skip ?_
    refine st_tn ?_
    refine w_seq ?_
    refine w_seq ?_
    refine w_region ?_
    refine wl_det rfl rfl rfl (op_move rfl) ?_
    refine wl_det rfl rfl rfl (op_lenT rfl tS48l (Sl.ent (Sl.lab 12 rfl (by unfold maxLen; omega)))) ?_
    refine wl_det rfl rfl rfl (op_move rfl) ?_
    refine wl_det rfl rfl rfl (op_nilCheck rfl) ?_
    refine wl_det rfl rfl rfl (op_fieldAddr (off := 1) rfl tF36_1l) ?_
    refine wl_det rfl rfl rfl (op_load1 rfl tO34l (Ent.app (Ent.fld hd1 1) _)) ?_
    refine wl_det rfl rfl rfl (op_lenT rfl tS34l (Sl.ent (by first | exact Sl.app (by assumption) _ | exact Sl.app (Sl.app (by assumption) _) _))) ?_
    refine wl_det rfl rfl rfl (op_val (v' := .bool false) (by simp; omega) (op_neq rfl rfl)) ?_
    refine wl_det rfl rfl rfl (op_move rfl) ?_
    refine wl_wanted_det rfl rfl rfl rfl rfl rfl rfl (op_move rfl) ?_
    refine wl_wanted_det rfl rfl rfl rfl rfl rfl rfl (op_fn Try.func16 rfl rfl rfl (used_any hg hp (Ent.app hd2 _) (Ent.app hm _))) ?_
    refine wl_wanted_det rfl rfl rfl rfl rfl rfl rfl (op_move rfl) ?_
    refine wl_wanted_det rfl rfl rfl rfl rfl rfl rfl (op_fn Try.func38 rfl rfl rfl (sused_any hg (Ent.app hd1 _) (Sl.app h _))) ?_
    refine wl_wanted_det rfl rfl rfl rfl rfl rfl rfl (op_val (v' := .bool false) (by simp [hc32]) (op_neq rfl rfl)) ?_
    refine wl_det rfl rfl rfl (op_pick_f rfl rfl) ?_
    refine wl_nil ?_
    refine st_tn ?_
    refine w_cond_f (rfl) ?_
    refine w_skip ?_
    refine st_tn ?_
    refine w_seq ?_
    refine w_seq ?_
    refine w_region ?_
    refine wl_det rfl rfl rfl (op_assign rfl) ?_
    refine wl_nil ?_
    refine st_tn ?_
    refine w_block ?_
    refine w_loopQ (X := Nat) (fun z => z ≤ s.fs.length) (fun z => [(6, .int .i64 (z))]) (fun _ => []) (fun z => s.fs.length - z) (0) [(0, _), (1, _), (5, _)] [(12, _)] [12] rfl (rfl) (.cons rfl (.nil _)) (.cons rfl (.cons rfl (.cons rfl (.nil _)))) (by
        try dsimp only
        exact Nat.zero_le _) ?_
    rintro i hi
    refine w_norm2 (by dsimp only [List.cons_append, List.nil_append]) (by dsimp only [List.cons_append, List.nil_append]) ?_
    try dsimp only at hi ⊢
    refine w_seq ?_
    refine w_seq ?_
    refine w_region ?_
    refine wl_det rfl rfl rfl (op_move rfl) ?_
    refine wl_det rfl rfl rfl (op_move rfl) ?_
    refine wl_det rfl rfl rfl (op_lenT rfl tS48l (Sl.ent (Sl.lab 12 rfl (by unfold maxLen; omega)))) ?_
    refine wl_det rfl rfl rfl (op_lss rfl rfl) ?_
    refine wl_nil ?_
    refine st_tn ?_
    refine w_cond_d rfl (fun hc59 => ?_) (fun hc59 => ?_)
    · -- c59.t
      obtain ⟨p, hx⟩ := getE (l := s.fs) (i := i) (by omega)
      have hpm := List.mem_of_getElem? hx
      have hk : (listO s)[i]? = some p.1 := by rw [hlo, keysOf, List.getElem?_map, hx]; rfl
      have hr1 := read_at hg hc32 hpm false
      have hr2 := read_at hg hc32 hpm true
      have hsy : p.2.syn ≤ p.2.data.length := hg.syn p hpm
      have hnl := name_len hg p hpm
      refine w_skip ?_
      refine st_tn ?_
      refine w_seq ?_
      refine w_block ?_
      refine w_seq ?_
      refine w_region ?_
      refine wl_det rfl rfl rfl (op_move rfl) ?_
      refine wl_det rfl rfl rfl (op_move rfl) ?_
      refine wl_det rfl rfl rfl (op_move rfl) ?_
      refine wl_det rfl rfl rfl (op_idx rfl rfl tS48l (Sl.ent (Sl.lab 12 rfl (by unfold maxLen; omega))) (by omega)) ?_
      refine wl_det rfl rfl rfl (op_ldx rfl tO9l (Sl.lab 12 rfl (by unfold maxLen; omega)) (by assumption) (by rfl)) ?_
      refine wl_det rfl rfl rfl (op_val (v' := .tuple #[.string (str p.2.data), .int .i64 0]) (by rw [hr1]; rfl) (op_fn Try.func28 rfl rfl rfl (read_any p.1 hg hp hnl (Ent.app hd2 _) (Ent.app (Mr.ofMe hm) _)))) ?_
      refine wl_det rfl rfl rfl (op_move rfl) ?_
      refine wl_det rfl rfl rfl (op_extract rfl rfl) ?_
      refine wl_det rfl rfl rfl (op_extract rfl rfl) ?_
      refine wl_det rfl rfl rfl (op_assign rfl) ?_
      refine wl_det rfl rfl rfl (op_assign rfl) ?_
      refine wl_nil ?_
      refine st_tn ?_
      refine w_seq ?_
      refine w_region ?_
      refine wl_det rfl rfl rfl (op_move rfl) ?_
      refine wl_det rfl rfl rfl (op_move rfl) ?_
      refine wl_det rfl rfl rfl (op_move rfl) ?_
      refine wl_det rfl rfl rfl (op_idx rfl rfl tS48l (Sl.ent (Sl.lab 12 rfl (by unfold maxLen; omega))) (by omega)) ?_
      refine wl_det rfl rfl rfl (op_ldx rfl tO9l (Sl.lab 12 rfl (by unfold maxLen; omega)) (by assumption) (by rfl)) ?_
      refine wl_det rfl rfl rfl (op_val (v' := .tuple #[.string (str (p.2.data.take p.2.syn)), .int .i64 0]) (by rw [hr2]; rfl) (op_fn Try.func33 rfl rfl rfl (durable_any p.1 hg hp hnl (Ent.app hd2 _) (Ent.app (Mr.ofMe hm) _)))) ?_
      refine wl_det rfl rfl rfl (op_move rfl) ?_
      refine wl_det rfl rfl rfl (op_extract rfl rfl) ?_
      refine wl_det rfl rfl rfl (op_extract rfl rfl) ?_
      refine wl_det rfl rfl rfl (op_assign rfl) ?_
      refine wl_det rfl rfl rfl (op_assign rfl) ?_
      refine wl_nil ?_
      refine st_tn ?_
      refine w_seq ?_
      refine w_drawW (fun β => (⟨80, [], [], [], noW (_), false, [], []⟩ :: ⟨81, [], [], [], noW (_), false, [], []⟩ :: ⟨82, [0, 1], [], [], noW (_), false, [], []⟩ :: ⟨83, [2], [], [], noW (_), false, [], []⟩ :: ⟨84, [], [], [], noW (_), false, [], []⟩ :: ⟨85, [4], [], [], noW (_), false, [], []⟩ :: ⟨86, [5], [], [], noW (_), false, [], []⟩ :: ⟨87, [6], [], [], noW (_), false, [], []⟩ :: ⟨88, [], [], [], noW (_), false, [], []⟩ :: ⟨89, [7, 8], [], [], noW (_), false, [], []⟩ :: ⟨90, [9], [], [], noW (_), false, [], []⟩ :: ⟨91, [10], [], [], noW (_), false, [], []⟩ :: ⟨92, [3, 11], [], [], noW (_), false, [], []⟩ :: ⟨93, [12], [], [], noW (_), false, [], []⟩ :: ⟨94, [], [], [], noW (_), false, [], []⟩ :: ⟨95, [], [], [], noW (_), false, [], []⟩ :: ⟨96, [15], [], [], noW (_), false, [], []⟩ :: ⟨97, [16], [], [], noW (_), false, [], []⟩ :: ⟨98, [17], [], [], noW (_), false, [], []⟩ :: ⟨99, [], [], [], noW (_), false, [], []⟩ :: ⟨100, [18, 19], [], [], noW (_), false, [], []⟩ :: ⟨101, [20], [], [], noW (_), false, [], []⟩ :: ⟨102, [21], [], [], noW (_), false, [], []⟩ :: ⟨103, [14, 22], [], [], noW (_), false, [], []⟩ :: ⟨104, [13, 23], [], [], noW (_), false, [], []⟩ :: ⟨105, [24], [], [], noW (_), false, [], []⟩ :: ⟨106, [], [], [], noW (_), false, [], []⟩ :: ⟨107, [26], [], [], noW (_), false, [], []⟩ :: ⟨108, [25, 27], [], [], noW (_), false, [], []⟩ :: ⟨109, [28], [], [], noW (_), false, [], []⟩ :: ⟨110, [], [], [], noW (_), false, [], []⟩ :: ⟨111, [], [], [], noW (_), false, [], []⟩ :: ⟨112, [31], [], [], noW (_), false, [], []⟩ :: ⟨113, [32], [], [], noW (_), false, [], []⟩ :: ⟨114, [33], [], [], noW (_), false, [], []⟩ :: ⟨115, [], [], [], noW (_), false, [], []⟩ :: ⟨116, [34, 35], [], [], noW (_), false, [], []⟩ :: ⟨117, [36], [], [], noW (_), false, [], []⟩ :: ⟨118, [37], [], [], noW (_), false, [], []⟩ :: ⟨119, [], [], [], noW (_), false, [], []⟩ :: ⟨120, [39], [], [], noW (_), false, [], []⟩ :: ⟨121, [40], [], [], noW (_), false, [], []⟩ :: ⟨122, [41], [], [], noW (_), false, [], []⟩ :: ⟨123, [], [], [], noW (_), false, [], []⟩ :: ⟨124, [42, 43], [], [], noW (_), false, [], []⟩ :: ⟨125, [44], [], [], noW (_), false, [], []⟩ :: ⟨126, [45], [], [], noW (_), false, [], []⟩ :: ⟨127, [38, 46], [], [], noW (_), false, [], []⟩ :: ⟨128, [30, 47], [], [], noW (_), false, [], []⟩ :: ⟨129, [29, 48], [], [], noW (_), false, [], []⟩ :: ⟨130, [49], [], [], noW (_), false, [], []⟩ :: ⟨131, [], [], [], noW (_), false, [], []⟩ :: ⟨132, [51], [], [], noW (_), false, [], []⟩ :: ⟨133, [50, 52], [], [], noW (_), false, [], []⟩ :: [])) [] [5, 6, 0, 7, 8, 9, 10] (⟨80, [], [], false, [], []⟩ :: ⟨81, [], [], false, [], []⟩ :: ⟨82, [0, 1], [], false, [], []⟩ :: ⟨83, [2], [], false, [], []⟩ :: ⟨84, [], [], false, [], []⟩ :: ⟨85, [4], [], false, [], []⟩ :: ⟨86, [5], [], false, [], []⟩ :: ⟨87, [6], [], false, [], []⟩ :: ⟨88, [], [], false, [], []⟩ :: ⟨89, [7, 8], [], false, [], []⟩ :: ⟨90, [9], [], false, [], []⟩ :: ⟨91, [10], [], false, [], []⟩ :: ⟨92, [3, 11], [], false, [], []⟩ :: ⟨93, [12], [], false, [], []⟩ :: ⟨94, [], [], false, [], []⟩ :: ⟨95, [], [], false, [], []⟩ :: ⟨96, [15], [], false, [], []⟩ :: ⟨97, [16], [], false, [], []⟩ :: ⟨98, [17], [], false, [], []⟩ :: ⟨99, [], [], false, [], []⟩ :: ⟨100, [18, 19], [], false, [], []⟩ :: ⟨101, [20], [], false, [], []⟩ :: ⟨102, [21], [], false, [], []⟩ :: ⟨103, [14, 22], [], false, [], []⟩ :: ⟨104, [13, 23], [], false, [], []⟩ :: ⟨105, [24], [], false, [], []⟩ :: ⟨106, [], [], false, [], []⟩ :: ⟨107, [26], [], false, [], []⟩ :: ⟨108, [25, 27], [], false, [], []⟩ :: ⟨109, [28], [], false, [], []⟩ :: ⟨110, [], [], false, [], []⟩ :: ⟨111, [], [], false, [], []⟩ :: ⟨112, [31], [], false, [], []⟩ :: ⟨113, [32], [], false, [], []⟩ :: ⟨114, [33], [], false, [], []⟩ :: ⟨115, [], [], false, [], []⟩ :: ⟨116, [34, 35], [], false, [], []⟩ :: ⟨117, [36], [], false, [], []⟩ :: ⟨118, [37], [], false, [], []⟩ :: ⟨119, [], [], false, [], []⟩ :: ⟨120, [39], [], false, [], []⟩ :: ⟨121, [40], [], false, [], []⟩ :: ⟨122, [41], [], false, [], []⟩ :: ⟨123, [], [], false, [], []⟩ :: ⟨124, [42, 43], [], false, [], []⟩ :: ⟨125, [44], [], false, [], []⟩ :: ⟨126, [45], [], false, [], []⟩ :: ⟨127, [38, 46], [], false, [], []⟩ :: ⟨128, [30, 47], [], false, [], []⟩ :: ⟨129, [29, 48], [], false, [], []⟩ :: ⟨130, [49], [], false, [], []⟩ :: ⟨131, [], [], false, [], []⟩ :: ⟨132, [51], [], false, [], []⟩ :: ⟨133, [50, 52], [], false, [], []⟩ :: []) ([] :: [] :: [] :: [] :: [] :: [] :: [] :: [] :: [] :: [] :: [] :: [] :: [] :: [] :: [] :: [] :: [] :: [] :: [] :: [] :: [] :: [] :: [] :: [] :: [] :: [] :: [] :: [] :: [] :: [] :: [] :: [] :: [] :: [] :: [] :: [] :: [] :: [] :: [] :: [] :: [] :: [] :: [] :: [] :: [] :: [] :: [] :: [] :: [] :: [] :: [] :: [] :: [] :: [] :: []) ([] :: [] :: [] :: [] :: [] :: [] :: [] :: [] :: [] :: [] :: [] :: [] :: [] :: [] :: [] :: [] :: [] :: [] :: [] :: [] :: [] :: [] :: [] :: [] :: [] :: [] :: [] :: [] :: [] :: [] :: [] :: [] :: [] :: [] :: [] :: [] :: [] :: [] :: [] :: [] :: [] :: [] :: [] :: [] :: [] :: [] :: [] :: [] :: [] :: [] :: [] :: [] :: [] :: [] :: []) tMixl (fun _ => by rfl) (fun _ => by rfl) (by kernel_rfl) (by kernel_rfl) (by rfl) (by rfl)
          (fun β => ⟨.p rfl (by intro X; exact op_move rfl),
          ⟨.p rfl (by intro X; exact op_move rfl),
          ⟨.p rfl (by intro X; rintro _ _ ⟨rfl, rfl⟩ _ _ ⟨rfl, rfl⟩; exact op_idx rfl rfl tS48l (Sl.ent (Sl.lab 12 rfl (by unfold maxLen; omega))) (by omega)),
          ⟨.p rfl (by intro X; rintro _ _ ⟨rfl, rfl⟩; exact op_ldx rfl tO9l (Sl.lab 12 rfl (by unfold maxLen; omega)) (by assumption) (by rfl)),
          ⟨.p rfl (by intro X; exact op_move rfl),
          ⟨.p rfl (by intro X; rintro _ _ ⟨rfl, rfl⟩; exact op_nilCheck rfl),
          ⟨.p rfl (by intro X; rintro _ _ ⟨rfl, rfl⟩; exact op_fieldAddr (off := 1) rfl tF36_1l),
          ⟨.p rfl (by intro X; rintro _ _ ⟨rfl, rfl⟩; exact op_load1 rfl tO34l (Ent.app (Ent.app (Ent.fld hd1 1) X) _)),
          ⟨.p rfl (by intro X; exact op_move rfl),
          ⟨.p rfl (by intro X; rintro _ _ ⟨rfl, rfl⟩ _ _ ⟨rfl, rfl⟩; exact op_idx rfl rfl tS34l (Sl.ent (Sl.app (Sl.app h X) _)) (by omega)),
          ⟨.p rfl (by intro X; rintro _ _ ⟨rfl, rfl⟩; exact op_fieldAddr (off := 0) rfl tF51_0l),
          ⟨.p rfl (by intro X; rintro _ _ ⟨rfl, rfl⟩; exact op_ldxf rfl tO9l (Sl.app (Sl.app h X) _) (by assumption) (by rfl)),
          ⟨.p rfl (by intro X; rintro _ _ ⟨rfl, rfl⟩ _ _ ⟨rfl, rfl⟩; exact op_val (v' := .bool false) (by simp) (op_neBs rfl rfl)),
          ⟨.p rfl (by intro X; rintro _ _ ⟨rfl, rfl⟩; exact op_move rfl),
          ⟨.w rfl rfl rfl (by rintro _ _ ⟨rfl, rfl⟩; rfl) (by intro X; exact op_move rfl),
          ⟨.w rfl rfl rfl (by rintro _ _ ⟨rfl, rfl⟩; rfl) (by intro X; exact op_move rfl),
          ⟨.w rfl rfl rfl (by rintro _ _ ⟨rfl, rfl⟩; rfl) (by intro X; rintro _ _ ⟨rfl, rfl⟩; exact op_nilCheck rfl),
          ⟨.w rfl rfl rfl (by rintro _ _ ⟨rfl, rfl⟩; rfl) (by intro X; rintro _ _ ⟨rfl, rfl⟩; exact op_fieldAddr (off := 1) rfl tF36_1l),
          ⟨.w rfl rfl rfl (by rintro _ _ ⟨rfl, rfl⟩; rfl) (by intro X; rintro _ _ ⟨rfl, rfl⟩; exact op_load1 rfl tO34l (Ent.app (Ent.app (Ent.fld hd1 1) X) _)),
          ⟨.w rfl rfl rfl (by rintro _ _ ⟨rfl, rfl⟩; rfl) (by intro X; exact op_move rfl),
          ⟨.w rfl rfl rfl (by rintro _ _ ⟨rfl, rfl⟩; rfl) (by intro X; rintro _ _ ⟨rfl, rfl⟩ _ _ ⟨rfl, rfl⟩; exact op_idx rfl rfl tS34l (Sl.ent (Sl.app (Sl.app h X) _)) (by omega)),
          ⟨.w rfl rfl rfl (by rintro _ _ ⟨rfl, rfl⟩; rfl) (by intro X; rintro _ _ ⟨rfl, rfl⟩; exact op_fieldAddr (off := 1) rfl tF51_1l),
          ⟨.w rfl rfl rfl (by rintro _ _ ⟨rfl, rfl⟩; rfl) (by intro X; rintro _ _ ⟨rfl, rfl⟩; exact op_ldxf rfl tO9l (Sl.app (Sl.app h X) _) (by assumption) (by rfl)),
          ⟨.w rfl rfl rfl (by rintro _ _ ⟨rfl, rfl⟩; rfl) (by intro X; rintro _ _ ⟨rfl, rfl⟩ _ _ ⟨rfl, rfl⟩; exact op_val (v' := .bool false) (by simp) (op_neBs rfl rfl)),
          ⟨.p rfl (by intro X; rintro _ _ ⟨rfl, rfl⟩ _ _ ⟨rfl, rfl⟩; exact op_pick_f rfl rfl),
          ⟨.p rfl (by intro X; rintro _ _ ⟨rfl, rfl⟩; exact op_move rfl),
          ⟨.w rfl rfl rfl (by rintro _ _ ⟨rfl, rfl⟩; rfl) (by intro X; exact op_move rfl),
          ⟨.w rfl rfl rfl (by rintro _ _ ⟨rfl, rfl⟩; rfl) (by intro X; rintro _ _ ⟨rfl, rfl⟩; exact op_val (v' := .bool false) (by simp) (op_neq rfl rfl)),
          ⟨.p rfl (by intro X; rintro _ _ ⟨rfl, rfl⟩ _ _ ⟨rfl, rfl⟩; exact op_pick_f rfl rfl),
          ⟨.p rfl (by intro X; rintro _ _ ⟨rfl, rfl⟩; exact op_move rfl),
          ⟨.w rfl rfl rfl (by rintro _ _ ⟨rfl, rfl⟩; rfl) (by intro X; exact op_move rfl),
          ⟨.w rfl rfl rfl (by rintro _ _ ⟨rfl, rfl⟩; rfl) (by intro X; exact op_move rfl),
          ⟨.w rfl rfl rfl (by rintro _ _ ⟨rfl, rfl⟩; rfl) (by intro X; rintro _ _ ⟨rfl, rfl⟩; exact op_nilCheck rfl),
          ⟨.w rfl rfl rfl (by rintro _ _ ⟨rfl, rfl⟩; rfl) (by intro X; rintro _ _ ⟨rfl, rfl⟩; exact op_fieldAddr (off := 1) rfl tF36_1l),
          ⟨.w rfl rfl rfl (by rintro _ _ ⟨rfl, rfl⟩; rfl) (by intro X; rintro _ _ ⟨rfl, rfl⟩; exact op_load1 rfl tO34l (Ent.app (Ent.app (Ent.fld hd1 1) X) _)),
          ⟨.w rfl rfl rfl (by rintro _ _ ⟨rfl, rfl⟩; rfl) (by intro X; exact op_move rfl),
          ⟨.w rfl rfl rfl (by rintro _ _ ⟨rfl, rfl⟩; rfl) (by intro X; rintro _ _ ⟨rfl, rfl⟩ _ _ ⟨rfl, rfl⟩; exact op_idx rfl rfl tS34l (Sl.ent (Sl.app (Sl.app h X) _)) (by omega)),
          ⟨.w rfl rfl rfl (by rintro _ _ ⟨rfl, rfl⟩; rfl) (by intro X; rintro _ _ ⟨rfl, rfl⟩; exact op_fieldAddr (off := 1) rfl tF51_1l),
          ⟨.w rfl rfl rfl (by rintro _ _ ⟨rfl, rfl⟩; rfl) (by intro X; rintro _ _ ⟨rfl, rfl⟩; exact op_ldxf rfl tO9l (Sl.app (Sl.app h X) _) (by assumption) (by rfl)),
          ⟨.w rfl rfl rfl (by rintro _ _ ⟨rfl, rfl⟩; rfl) (by intro X; exact op_move rfl),
          ⟨.w rfl rfl rfl (by rintro _ _ ⟨rfl, rfl⟩; rfl) (by intro X; rintro _ _ ⟨rfl, rfl⟩; exact op_nilCheck rfl),
          ⟨.w rfl rfl rfl (by rintro _ _ ⟨rfl, rfl⟩; rfl) (by intro X; rintro _ _ ⟨rfl, rfl⟩; exact op_fieldAddr (off := 1) rfl tF36_1l),
          ⟨.w rfl rfl rfl (by rintro _ _ ⟨rfl, rfl⟩; rfl) (by intro X; rintro _ _ ⟨rfl, rfl⟩; exact op_load1 rfl tO34l (Ent.app (Ent.app (Ent.fld hd1 1) X) _)),
          ⟨.w rfl rfl rfl (by rintro _ _ ⟨rfl, rfl⟩; rfl) (by intro X; exact op_move rfl),
          ⟨.w rfl rfl rfl (by rintro _ _ ⟨rfl, rfl⟩; rfl) (by intro X; rintro _ _ ⟨rfl, rfl⟩ _ _ ⟨rfl, rfl⟩; exact op_idx rfl rfl tS34l (Sl.ent (Sl.app (Sl.app h X) _)) (by omega)),
          ⟨.w rfl rfl rfl (by rintro _ _ ⟨rfl, rfl⟩; rfl) (by intro X; rintro _ _ ⟨rfl, rfl⟩; exact op_fieldAddr (off := 2) rfl tF51_2l),
          ⟨.w rfl rfl rfl (by rintro _ _ ⟨rfl, rfl⟩; rfl) (by intro X; rintro _ _ ⟨rfl, rfl⟩; exact op_ldxf rfl tO3l (Sl.app (Sl.app h X) _) (by assumption) (by rfl)),
          ⟨.w rfl rfl rfl (by rintro _ _ ⟨rfl, rfl⟩; rfl) (by intro X; rintro _ _ ⟨rfl, rfl⟩ _ _ ⟨rfl, rfl⟩; exact op_sliceRBs rfl rfl Try.underlying9 (by omega)),
          ⟨.w rfl rfl rfl (by rintro _ _ ⟨rfl, rfl⟩; rfl) (by intro X; rintro _ _ ⟨rfl, rfl⟩ _ _ ⟨rfl, rfl⟩; exact op_val (v' := .bool false) (by simp) (op_neBs rfl rfl)),
          ⟨.p rfl (by intro X; rintro _ _ ⟨rfl, rfl⟩ _ _ ⟨rfl, rfl⟩; exact op_pick_f rfl rfl),
          ⟨.p rfl (by intro X; rintro _ _ ⟨rfl, rfl⟩; exact op_move rfl),
          ⟨.w rfl rfl rfl (by rintro _ _ ⟨rfl, rfl⟩; rfl) (by intro X; exact op_move rfl),
          ⟨.w rfl rfl rfl (by rintro _ _ ⟨rfl, rfl⟩; rfl) (by intro X; rintro _ _ ⟨rfl, rfl⟩; exact op_val (v' := .bool false) (by simp) (op_neq rfl rfl)),
          ⟨.p rfl (by intro X; rintro _ _ ⟨rfl, rfl⟩ _ _ ⟨rfl, rfl⟩; exact op_pick_f rfl rfl),
          trivial⟩⟩⟩⟩⟩⟩⟩⟩⟩⟩⟩⟩⟩⟩⟩⟩⟩⟩⟩⟩⟩⟩⟩⟩⟩⟩⟩⟩⟩⟩⟩⟩⟩⟩⟩⟩⟩⟩⟩⟩⟩⟩⟩⟩⟩⟩⟩⟩⟩⟩⟩⟩⟩⟩)
          (fun β β' => ⟨fun _ => by rfl, ⟨fun _ => by rfl, ⟨fun _ => by rfl, ⟨fun _ => by rfl, ⟨fun _ => by rfl, ⟨fun _ => by rfl, ⟨fun _ => by rfl, ⟨fun _ => by rfl, ⟨fun _ => by rfl, ⟨fun _ => by rfl, ⟨fun _ => by rfl, ⟨fun _ => by rfl, ⟨fun _ => by rfl, ⟨fun _ => by rfl, ⟨fun _ => by rfl, ⟨fun _ => by rfl, ⟨fun _ => by rfl, ⟨fun _ => by rfl, ⟨fun _ => by rfl, ⟨fun _ => by rfl, ⟨fun _ => by rfl, ⟨fun _ => by rfl, ⟨fun _ => by rfl, ⟨fun _ => by rfl, ⟨fun _ => by rfl, ⟨fun _ => by rfl, ⟨fun _ => by rfl, ⟨fun _ => by rfl, ⟨fun _ => by rfl, ⟨fun _ => by rfl, ⟨fun _ => by rfl, ⟨fun _ => by rfl, ⟨fun _ => by rfl, ⟨fun _ => by rfl, ⟨fun _ => by rfl, ⟨fun _ => by rfl, ⟨fun _ => by rfl, ⟨fun _ => by rfl, ⟨fun _ => by rfl, ⟨fun _ => by rfl, ⟨fun _ => by rfl, ⟨fun _ => by rfl, ⟨fun _ => by rfl, ⟨fun _ => by rfl, ⟨fun _ => by rfl, ⟨fun _ => by rfl, ⟨fun _ => by rfl, ⟨fun _ => by rfl, ⟨fun _ => by rfl, ⟨fun _ => by rfl, ⟨fun _ => by rfl, ⟨fun _ => by rfl, ⟨fun _ => by rfl, ⟨fun _ => by rfl, trivial⟩⟩⟩⟩⟩⟩⟩⟩⟩⟩⟩⟩⟩⟩⟩⟩⟩⟩⟩⟩⟩⟩⟩⟩⟩⟩⟩⟩⟩⟩⟩⟩⟩⟩⟩⟩⟩⟩⟩⟩⟩⟩⟩⟩⟩⟩⟩⟩⟩⟩⟩⟩⟩⟩) ?_
      intro β
      rintro _ _ ⟨rfl, rfl⟩ _ _ ⟨rfl, rfl⟩ _ _ ⟨rfl, rfl⟩ _ _ ⟨rfl, rfl⟩ _ _ ⟨rfl, rfl⟩ _ _ ⟨rfl, rfl⟩ _ _ ⟨rfl, rfl⟩ _ _ ⟨rfl, rfl⟩ _ _ ⟨rfl, rfl⟩ _ _ ⟨rfl, rfl⟩ _ _ ⟨rfl, rfl⟩ _ _ ⟨rfl, rfl⟩ _ _ ⟨rfl, rfl⟩ _ _ ⟨rfl, rfl⟩ _ _ ⟨rfl, rfl⟩ _ _ ⟨rfl, rfl⟩ _ _ ⟨rfl, rfl⟩ _ _ ⟨rfl, rfl⟩ _ _ ⟨rfl, rfl⟩ _ _ ⟨rfl, rfl⟩ _ _ ⟨rfl, rfl⟩ _ _ ⟨rfl, rfl⟩ _ _ ⟨rfl, rfl⟩ _ _ ⟨rfl, rfl⟩ _ _ ⟨rfl, rfl⟩ _ _ ⟨rfl, rfl⟩ _ _ ⟨rfl, rfl⟩ _ _ ⟨rfl, rfl⟩ _ _ ⟨rfl, rfl⟩ _ _ ⟨rfl, rfl⟩ _ _ ⟨rfl, rfl⟩ _ _ ⟨rfl, rfl⟩ _ _ ⟨rfl, rfl⟩ _ _ ⟨rfl, rfl⟩ _ _ ⟨rfl, rfl⟩ _ _ ⟨rfl, rfl⟩ _ _ ⟨rfl, rfl⟩ _ _ ⟨rfl, rfl⟩ _ _ ⟨rfl, rfl⟩ _ _ ⟨rfl, rfl⟩ _ _ ⟨rfl, rfl⟩ _ _ ⟨rfl, rfl⟩ _ _ ⟨rfl, rfl⟩ _ _ ⟨rfl, rfl⟩ _ _ ⟨rfl, rfl⟩ _ _ ⟨rfl, rfl⟩ _ _ ⟨rfl, rfl⟩ _ _ ⟨rfl, rfl⟩ _ _ ⟨rfl, rfl⟩ _ _ ⟨rfl, rfl⟩ _ _ ⟨rfl, rfl⟩ _ _ ⟨rfl, rfl⟩ _ _ ⟨rfl, rfl⟩ _ _ ⟨rfl, rfl⟩
      refine wl_norm (e' := [(0, _), (1, _), (5, _), (6, _), (133, _)]) (.cons rfl (.cons rfl (.cons rfl (.cons rfl (.cons rfl (.nil _)))))) (by dsimp only [cond_false, cond_true, List.nil_append, List.cons_append]) ?_
      refine wl_nil ?_
      refine st_tn ?_
      refine w_cond_f (rfl) ?_
      refine w_skip ?_
      refine st_bn ?_
      refine st_tn ?_
      refine w_region ?_
      refine wl_det rfl rfl rfl (op_move rfl) ?_
      refine wl_det rfl rfl rfl (op_add' rfl rfl (by omega)) ?_
      refine wl_det rfl rfl rfl (op_assign rfl) ?_
      refine wl_nil ?_
      refine st_roundQ (x := i) (i + 1) [12] rfl (rfl) (.cons rfl (.nil _)) (.cons rfl (.cons rfl (.cons rfl (.nil _)))) (by
          try dsimp only
          omega) (by
          try dsimp only
          omega) 
    · -- c59.f
      refine w_exit ?_
      refine st_te ?_
      refine st_te ?_
      refine st_be ?_
      refine st_tn ?_
      refine w_seq ?_
      refine w_region ?_
      refine wl_det rfl rfl rfl (op_assign rfl) ?_
      refine wl_nil ?_
      refine st_tn ?_
      refine w_ret ?_
      refine st_ret (vs := [_]) [] Try.results18 ⟨rfl, trivial⟩ rfl ?_
      refine ⟨_, rfl, ?_⟩
      exact ⟨rfl, rfl⟩

def namesL : List Bs := [[97], [98], [99], [119, 97, 108, 46, 49], [119, 97, 108, 46, 50], [120, 32, 121], [100], [101]]
def nmN (k : Int) : Bs := namesL.getD (k % 8).toNat []
theorem nm_get (k : Int) : namesL[(k % 8).toNat]? = some (nmN k) := by
  unfold nmN
  rw [List.getD_eq_getElem?_getD, List.getElem?_eq_getElem (by simp [namesL]; omega)]; rfl
theorem nm_len (k : Int) : (nmN k).length ≤ 5 := by
  have : ∀ n ∈ namesL, n.length ≤ 5 := by decide
  exact this _ (List.mem_of_getElem? (nm_get k))
theorem nm_max (k : Int) : (nmN k).length ≤ maxLen := by have := nm_len k; unfold maxLen; omega
set_option maxHeartbeats 400000 in
set_option maxRecDepth 100000 in
theorem name_any {σ : World} {F : List Res} (k : Int) (hk : 0 ≤ k ∧ k ≤ 255) :
    FnT Try.prog σ F 20 [.int .u8 k] [] (fun u ρ => u = .string (str (nmN k)) ∧ ρ = []) := by
  refine fn_of 8 Try.func20 rfl Try.ntmps20 rfl ?_
  refine w_seq ?_
  refine w_region ?_
  refine wl_det rfl rfl rfl (op_assign rfl) ?_
  refine wl_nil ?_
  refine st_tn ?_
  refine w_seq ?_
  refine w_region ?_
  refine wl_op [] rfl rfl rfl rfl (op_buildSlice (enc := encT) (l := namesL) (lab := 3) tL48_8l rfl rfl (fun _ => rfl) rfl) ?_
  rintro _ _ ⟨a3, c3, rfl, rfl⟩
  refine wl_det rfl rfl rfl (op_move rfl) ?_
  refine wl_det rfl rfl rfl (op_remN rfl rfl (by omega) (by omega)) ?_
  refine wl_det rfl rfl rfl (op_idxK rfl rfl tS48l (Sl.lab 3 rfl (by simp [maxLen, namesL])) (by omega) (by simp [namesL]; omega)) ?_
  refine wl_det rfl rfl rfl (op_ldx rfl tO9l (Sl.lab 3 rfl (by simp [maxLen, namesL])) (nm_get _) rfl) ?_
  refine wl_det rfl rfl rfl (op_assign rfl) ?_
  refine wl_nil ?_
  refine st_tn ?_
  refine w_ret ?_
  refine st_ret (vs := [_]) [] Try.results20 ⟨rfl, trivial⟩ rfl ?_
  refine ⟨_, rfl, ?_⟩
  exact ⟨rfl, rfl⟩

end Go.Proofs.Ytjlbeakdgadpmaa
