/- Contracts: the model of a disk: insert, remove, append, change (layer 26). Conditions: none. -/
import Derived.Test.YtjlbeakdgadpmaaD6
namespace Go.Proofs.Ytjlbeakdgadpmaa
open Go Go.SL Go.RowKit Go.DskM
set_option linter.unusedVariables false
set_option linter.unusedSimpArgs false
theorem tA51g : aggB Try.prog 51 4 = true := by kernel_rfl
theorem tB51g : placesB Try.prog 51 = some ([(0, 1), (1, 1), (2, 1), (3, 1)], [Value.string .empty, Value.string .empty, Value.int .i64 0, Value.bool false]) := by kernel_rfl
theorem tF36_0g : fieldB Try.prog 36 0 0 = true := by kernel_rfl
theorem tF36_1g : fieldB Try.prog 36 1 1 = true := by kernel_rfl
theorem tF51_0g : fieldB Try.prog 51 0 0 = true := by kernel_rfl
theorem tF51_1g : fieldB Try.prog 51 1 1 = true := by kernel_rfl
theorem tL34_1g : zerosB Try.prog 34 51 4 1 = some [Value.string .empty, Value.string .empty, Value.int .i64 0, Value.bool false] := by kernel_rfl
theorem tL48_1g : zerosB Try.prog 48 9 1 1 = some [Value.string .empty] := by kernel_rfl
theorem tMixg : Try.prog.follows .mixedOrders = true := by kernel_rfl
theorem tO3g : oneB Try.prog 3 = true := by kernel_rfl
theorem tO34g : oneB Try.prog 34 = true := by kernel_rfl
theorem tO9g : oneB Try.prog 9 = true := by kernel_rfl
theorem tP34g : appB Try.prog 34 51 4 48 = true := by kernel_rfl
theorem tS34g : sliceB Try.prog 34 51 4 = true := by kernel_rfl
theorem tZ34g : (Try.prog.info? 34).map (·.size) = some 1 := by kernel_rfl

theorem enc1M : Enc1 encM 4 := ⟨fun _ => rfl, fun a u h => by simp [encM] at h; rcases h with rfl | rfl | rfl | rfl <;> rfl⟩
def aggM (p : Bs × Fl) : Value := .agg #[.string (str p.1), .string (str p.2.data), .int .i64 p.2.syn, .bool p.2.dur]
/-- The model's cells and files, with other files. -/
def NewS (b : Nat) (s : St) (ρ : RL) : Prop := ∃ a m c, ρ = [(603, cel b (cellS s a m c) 36), (604, slW 51 encM 4 (.slice a m c) s.fs)]
set_option maxHeartbeats 1000000 in
set_option maxRecDepth 100000 in
theorem insert_any {σ : World} {F : List Res} {b : Nat} {s : St} {a : Option Addr} {m c : Nat} (n : Bs) (f : Fl) (hg : DskM.Good s) (hf : find s.fs n = none) :
    FnT Try.prog σ F 50 [.pointer (some ⟨b, 0, none⟩), aggM (n, f)] [(603, cel b (cellS s a m c) 36), (604, slW 51 encM 4 (.slice a m c) s.fs)] (fun u ρ => u = .tuple #[] ∧ NewS b { s with fs := setS s.fs n f } ρ) := by
  refine fn_of 33 Try.func50 rfl Try.ntmps50 rfl ?_
  have hcnt := hg.cnt
  have hlo := idx_le s.fs n
  have hset := set_new (f := f) hf
  refine w_seq ?_
  refine w_region ?_
  refine wl_op [] rfl rfl rfl rfl (op_box (T := 51) (l := 3) rfl) ?_
  rintro _ _ ⟨b3, rfl, rfl⟩
  refine wl_nil ?_
  refine st_tn ?_
  refine w_seq ?_
  refine w_region ?_
  refine wl_det rfl rfl rfl (op_move rfl) ?_
  refine wl_det rfl rfl rfl (op_fieldAddr (off := 0) rfl tF51_0g) ?_
  refine wl_det rfl rfl rfl (op_load1 rfl tO9g (Ent.lab (l := 3) rfl (says_cel 0))) ?_
  refine wl_det rfl rfl rfl (op_fn Try.func49 rfl rfl rfl (index_any n hg (celS (l := 603) rfl) (Sl.lab 604 rfl (by unfold maxLen; omega)))) ?_
  refine wl_det rfl rfl rfl (op_move rfl) ?_
  refine wl_det rfl rfl rfl (op_extract rfl rfl) ?_
  refine wl_det rfl rfl rfl (op_extract rfl rfl) ?_
  refine wl_det rfl rfl rfl (op_assign rfl) ?_
  refine wl_det rfl rfl rfl (op_assign rfl) ?_
  refine wl_nil ?_
  refine st_tn ?_
  refine w_drawW (fun β => [⟨13, [], [], [], noW (_), false, [], []⟩, ⟨14, [], [], [], noW (_), false, [], []⟩, ⟨15, [1], [], [], noW (_), false, [], []⟩, ⟨16, [2], [], [], noW (_), false, [], []⟩, ⟨17, [3], [], [], noW (_), false, [], []⟩, ⟨18, [], [], [], noW (_), false, [], []⟩, ⟨19, [], [], [], noW (_), false, [], []⟩, ⟨20, [4, 5, 6], [], [], noW (_), false, [], []⟩, ⟨21, [], [], [], noW (_), false, [], []⟩, ⟨22, [8], [], [], fun w => DetW _ _, true, [], []⟩, ⟨23, [], [], [], noW (_), false, [], []⟩, ⟨24, [10], [], [], noW (_), false, [], []⟩, ⟨25, [11], [], [], noW (_), false, [], []⟩, ⟨26, [12], [], [], noW (_), false, [], []⟩, ⟨27, [], [], [], noW (_), false, [], []⟩, ⟨28, [13, 14], [], [], noW (_), false, [], []⟩, ⟨29, [15], [9], [], fun w => DetW _ _, false, [], []⟩, ⟨30, [7, 16], [], [], fun w => DetW _ _, false, [], []⟩]) [] [0, 4, 3] [⟨13, [], [], false, [], []⟩, ⟨14, [], [], false, [], []⟩, ⟨15, [1], [], false, [], []⟩, ⟨16, [2], [], false, [], []⟩, ⟨17, [3], [], false, [], []⟩, ⟨18, [], [], false, [], []⟩, ⟨19, [], [], false, [], []⟩, ⟨20, [4, 5, 6], [], false, [], []⟩, ⟨21, [], [], false, [], []⟩, ⟨22, [8], [], true, [], []⟩, ⟨23, [], [], false, [], []⟩, ⟨24, [10], [], false, [], []⟩, ⟨25, [11], [], false, [], []⟩, ⟨26, [12], [], false, [], []⟩, ⟨27, [], [], false, [], []⟩, ⟨28, [13, 14], [], false, [], []⟩, ⟨29, [15], [9], false, [], []⟩, ⟨30, [7, 16], [], false, [], []⟩] [[], [], [], [], [], [], [], [], [], [], [], [], [], [], [], [], [9], [9, 16]] [[], [], [], [], [], [], [], [], [], [], [], [], [], [], [], [], [], []] tMixg (fun _ => by rfl) (fun _ => by rfl) (by kernel_rfl) (by kernel_rfl) (by rfl) (by rfl)
      (fun β => ⟨.p rfl (by intro X; exact op_move rfl),
      ⟨.p rfl (by intro X; exact op_move rfl),
      ⟨.p rfl (by intro X; rintro _ _ ⟨rfl, rfl⟩; exact op_nilCheck rfl),
      ⟨.p rfl (by intro X; rintro _ _ ⟨rfl, rfl⟩; exact op_fieldAddr (off := 1) rfl tF36_1g),
      ⟨.p rfl (by intro X; rintro _ _ ⟨rfl, rfl⟩; exact op_load1 rfl tO34g (Ent.lab (l := 603) rfl (says_cel 1))),
      ⟨.p rfl (by intro X; exact op_move rfl),
      ⟨.p rfl (by intro X; exact op_move rfl),
      ⟨.p rfl (by intro X; rintro _ _ ⟨rfl, rfl⟩ _ _ ⟨rfl, rfl⟩ _ _ ⟨rfl, rfl⟩; exact op_slice3R rfl rfl rfl tS34g (Sl.lab 604 rfl (by unfold maxLen; omega)) hlo),
      ⟨.p rfl (by intro X; exact op_loadA rfl tA51g (Ent.lab (l := 3) rfl (says_cel 0)) (Nat.le_of_ble_eq_true rfl)),
      ⟨.px rfl (by intro X; rintro _ _ ⟨rfl, rfl⟩; refine OpT.mono (op_buildSlice (enc := encM) (l := [(n, f)]) (lab := 22) tL34_1g rfl rfl (fun _ => rfl) rfl) ?_; rintro _ _ ⟨a22, c22, rfl, rfl⟩; obtain ⟨w, rfl, rfl⟩ : ∃ w : Wt, w.a = a22 ∧ w.c = c22 := ⟨{ a := a22, c := c22 }, rfl, rfl⟩; exact ⟨w, rfl, rfl⟩),
      ⟨.p rfl (by intro X; exact op_move rfl),
      ⟨.p rfl (by intro X; rintro _ _ ⟨rfl, rfl⟩; exact op_nilCheck rfl),
      ⟨.p rfl (by intro X; rintro _ _ ⟨rfl, rfl⟩; exact op_fieldAddr (off := 1) rfl tF36_1g),
      ⟨.p rfl (by intro X; rintro _ _ ⟨rfl, rfl⟩; exact op_load1 rfl tO34g (Ent.lab (l := 603) rfl (says_cel 1))),
      ⟨.p rfl (by intro X; exact op_move rfl),
      ⟨.p rfl (by intro X; rintro _ _ ⟨rfl, rfl⟩ _ _ ⟨rfl, rfl⟩; exact op_sliceL rfl rfl tS34g (Sl.lab 604 rfl (by unfold maxLen; omega)) (by omega)),
      ⟨.px rfl (by intro X; rintro _ _ ⟨rfl, rfl⟩ _ _ ⟨rfl, rfl⟩; show OpT _ _ _ _ _ _ [(_, _)] _; refine OpT.mono (op_append (lab := 22) (lab' := 29) rfl rfl tP34g enc1M (Sl.dropL (Sl.lab 604 rfl (by unfold maxLen; omega)) hlo) (by simp; omega) (by simp; omega)) ?_; rintro _ _ ⟨a29, c29, rfl, rfl⟩; obtain ⟨w, rfl, rfl⟩ : ∃ w : Wt, w.a = a29 ∧ w.c = c29 := ⟨{ a := a29, c := c29 }, rfl, rfl⟩; exact ⟨w, rfl, rfl⟩),
      ⟨.px rfl (by intro X; rintro _ _ ⟨rfl, rfl⟩ _ _ ⟨rfl, rfl⟩; refine OpT.mono (op_appendFresh (lab' := 30) rfl rfl tP34g enc1M (Sl.sub3 (Sl.lab 604 rfl (by unfold maxLen; omega)) hlo) (Sl.lab 29 rfl (by unfold maxLen; simp; omega)) (by simp) (by simp; omega) (by simp; omega)) ?_; rintro _ _ ⟨a30, c30, rfl, rfl⟩; obtain ⟨w, rfl, rfl⟩ : ∃ w : Wt, w.a = a30 ∧ w.c = c30 := ⟨{ a := a30, c := c30 }, rfl, rfl⟩; exact ⟨w, rfl, rfl⟩),
      trivial⟩⟩⟩⟩⟩⟩⟩⟩⟩⟩⟩⟩⟩⟩⟩⟩⟩⟩)
      (fun β β' => ⟨fun _ => by rfl, ⟨fun _ => by rfl, ⟨fun _ => by rfl, ⟨fun _ => by rfl, ⟨fun _ => by rfl, ⟨fun _ => by rfl, ⟨fun _ => by rfl, ⟨fun _ => by rfl, ⟨fun _ => by rfl, ⟨fun _ => by rfl, ⟨fun _ => by rfl, ⟨fun _ => by rfl, ⟨fun _ => by rfl, ⟨fun _ => by rfl, ⟨fun _ => by rfl, ⟨fun _ => by rfl, ⟨fun h => by first | rfl | (simp only [h 9 (by decide)]), ⟨fun h => by first | rfl | (simp only [h 9 (by decide), h 16 (by decide)]), trivial⟩⟩⟩⟩⟩⟩⟩⟩⟩⟩⟩⟩⟩⟩⟩⟩⟩⟩) ?_
  intro β
  rintro _ _ ⟨rfl, rfl⟩ _ _ ⟨rfl, rfl⟩ _ _ ⟨rfl, rfl⟩ _ _ ⟨rfl, rfl⟩ _ _ ⟨rfl, rfl⟩ _ _ ⟨rfl, rfl⟩ _ _ ⟨rfl, rfl⟩ _ _ ⟨rfl, rfl⟩ _ _ ⟨rfl, rfl⟩ _ _ ⟨rfl, rfl⟩ _ _ ⟨rfl, rfl⟩ _ _ ⟨rfl, rfl⟩ _ _ ⟨rfl, rfl⟩ _ _ ⟨rfl, rfl⟩ _ _ ⟨rfl, rfl⟩ _ _ ⟨rfl, rfl⟩ _ _ ⟨rfl, rfl⟩ _ _ ⟨rfl, rfl⟩
  generalize (β 9).a = a22
  generalize (β 9).c = c22
  generalize (β 16).a = a29
  generalize (β 16).c = c29
  generalize (β 17).a = a30
  generalize (β 17).c = c30
  refine wl_norm (e' := [(13, _), (30, _)]) (.cons rfl (.cons rfl (.nil _))) (by dsimp only [cond_false, cond_true, List.nil_append, List.cons_append]) ?_
  refine wl_det rfl rfl rfl (op_nilCheck rfl) ?_
  refine wl_det rfl rfl rfl (op_fieldAddr (off := 1) rfl tF36_1g) ?_
  refine wl_op0 [603] rfl rfl rfl (op_store rfl rfl tZ34g (by rfl) (by rfl) (by exact Nat.le_of_ble_eq_true rfl)) ?_
  rintro _ _ ⟨rfl, rfl⟩
  refine wl_nil ?_
  refine st_end (vs := []) [603, 30] Try.results50 trivial rfl ?_
  refine ⟨[(603, _), (604, _)], rfl, ?_⟩
  refine ⟨rfl, ?_⟩; unfold NewS; rw [hset]; exact ⟨_, _, _, rfl⟩

set_option maxHeartbeats 1000000 in
set_option maxRecDepth 100000 in
theorem remove_any' {σ : World} {F : List Res} {b : Nat} {s : St} {a : Option Addr} {m c : Nat} (k : Nat) (hk : k < s.fs.length) (hcnt : s.fs.length ≤ 256) :
    FnT Try.prog σ F 52 [.pointer (some ⟨b, 0, none⟩), .int .i64 k] [(603, cel b (cellS s a m c) 36), (604, slW 51 encM 4 (.slice a m c) s.fs)] (fun u ρ => u = .tuple #[] ∧ NewS b { s with fs := s.fs.take k ++ s.fs.drop (k + 1) } ρ) := by
  refine fn_of 23 Try.func52 rfl Try.ntmps52 rfl ?_
  refine w_drawW (fun β => [⟨4, [], [], [], noW (_), false, [], []⟩, ⟨5, [], [], [], fun w => DetW _ _, true, [], []⟩, ⟨6, [], [], [], noW (_), false, [], []⟩, ⟨7, [2], [], [], noW (_), false, [], []⟩, ⟨8, [3], [], [], noW (_), false, [], []⟩, ⟨9, [4], [], [], noW (_), false, [], []⟩, ⟨10, [], [], [], noW (_), false, [], []⟩, ⟨11, [5, 6], [], [], noW (_), false, [], []⟩, ⟨12, [7], [1], [], fun w => DetW _ _, true, [], []⟩, ⟨13, [], [], [], noW (_), false, [], []⟩, ⟨14, [9], [], [], noW (_), false, [], []⟩, ⟨15, [10], [], [], noW (_), false, [], []⟩, ⟨16, [11], [], [], noW (_), false, [], []⟩, ⟨17, [], [], [], noW (_), false, [], []⟩, ⟨18, [13], [], [], noW (_), false, [], []⟩, ⟨19, [12, 14], [], [], noW (_), false, [], []⟩, ⟨20, [15], [8], [], fun w => DetW _ _, false, [], []⟩]) [] [0, 1] [⟨4, [], [], false, [], []⟩, ⟨5, [], [], true, [], []⟩, ⟨6, [], [], false, [], []⟩, ⟨7, [2], [], false, [], []⟩, ⟨8, [3], [], false, [], []⟩, ⟨9, [4], [], false, [], []⟩, ⟨10, [], [], false, [], []⟩, ⟨11, [5, 6], [], false, [], []⟩, ⟨12, [7], [1], true, [], []⟩, ⟨13, [], [], false, [], []⟩, ⟨14, [9], [], false, [], []⟩, ⟨15, [10], [], false, [], []⟩, ⟨16, [11], [], false, [], []⟩, ⟨17, [], [], false, [], []⟩, ⟨18, [13], [], false, [], []⟩, ⟨19, [12, 14], [], false, [], []⟩, ⟨20, [15], [8], false, [], []⟩] [[], [], [], [], [], [], [], [], [1], [], [], [], [], [], [], [], [1, 8]] [[], [], [], [], [], [], [], [], [], [], [], [], [], [], [], [], []] tMixg (fun _ => by rfl) (fun _ => by rfl) (by kernel_rfl) (by kernel_rfl) (by rfl) (by rfl)
      (fun β => ⟨.p rfl (by intro X; exact op_move rfl),
      ⟨.px rfl (by intro X; refine OpT.mono (op_lit0 (enc := encM) (lab := 5) tS34g) ?_; rintro _ _ ⟨a5, c5, rfl, rfl⟩; obtain ⟨w, rfl, rfl⟩ : ∃ w : Wt, w.a = a5 ∧ w.c = c5 := ⟨{ a := a5, c := c5 }, rfl, rfl⟩; exact ⟨w, rfl, rfl⟩),
      ⟨.p rfl (by intro X; exact op_move rfl),
      ⟨.p rfl (by intro X; rintro _ _ ⟨rfl, rfl⟩; exact op_nilCheck rfl),
      ⟨.p rfl (by intro X; rintro _ _ ⟨rfl, rfl⟩; exact op_fieldAddr (off := 1) rfl tF36_1g),
      ⟨.p rfl (by intro X; rintro _ _ ⟨rfl, rfl⟩; exact op_load1 rfl tO34g (Ent.lab (l := 603) rfl (says_cel 1))),
      ⟨.p rfl (by intro X; exact op_move rfl),
      ⟨.p rfl (by intro X; rintro _ _ ⟨rfl, rfl⟩ _ _ ⟨rfl, rfl⟩; exact op_sliceR rfl rfl tS34g (Sl.lab 604 rfl (by unfold maxLen; omega)) (by omega)),
      ⟨.px rfl (by intro X; rintro _ _ ⟨rfl, rfl⟩ _ _ ⟨rfl, rfl⟩; show OpT _ _ _ _ _ _ [(_, _)] _; refine OpT.mono (op_append (lab := 5) (lab' := 12) rfl rfl tP34g enc1M (Sl.takeR (Sl.lab 604 rfl (by unfold maxLen; omega)) (Nat.le_of_lt hk)) (by simp; omega) (by simp; omega)) ?_; rintro _ _ ⟨a12, c12, rfl, rfl⟩; obtain ⟨w, rfl, rfl⟩ : ∃ w : Wt, w.a = a12 ∧ w.c = c12 := ⟨{ a := a12, c := c12 }, rfl, rfl⟩; exact ⟨w, rfl, rfl⟩),
      ⟨.p rfl (by intro X; exact op_move rfl),
      ⟨.p rfl (by intro X; rintro _ _ ⟨rfl, rfl⟩; exact op_nilCheck rfl),
      ⟨.p rfl (by intro X; rintro _ _ ⟨rfl, rfl⟩; exact op_fieldAddr (off := 1) rfl tF36_1g),
      ⟨.p rfl (by intro X; rintro _ _ ⟨rfl, rfl⟩; exact op_load1 rfl tO34g (Ent.lab (l := 603) rfl (says_cel 1))),
      ⟨.p rfl (by intro X; exact op_move rfl),
      ⟨.p rfl (by intro X; rintro _ _ ⟨rfl, rfl⟩; exact op_val (v' := .int .i64 ((k + 1 : Nat) : Int)) (by rfl) (op_add' rfl rfl (by omega))),
      ⟨.p rfl (by intro X; rintro _ _ ⟨rfl, rfl⟩ _ _ ⟨rfl, rfl⟩; exact op_sliceL rfl rfl tS34g (Sl.lab 604 rfl (by unfold maxLen; omega)) (by omega)),
      ⟨.px rfl (by intro X; rintro _ _ ⟨rfl, rfl⟩ _ _ ⟨rfl, rfl⟩; show OpT _ _ _ _ _ _ [(_, _)] _; refine OpT.mono (op_append (lab := 12) (lab' := 20) rfl rfl tP34g enc1M (Sl.dropL (Sl.lab 604 rfl (by unfold maxLen; omega)) hk) (by simp; omega) (by simp; omega)) ?_; rintro _ _ ⟨a20, c20, rfl, rfl⟩; obtain ⟨w, rfl, rfl⟩ : ∃ w : Wt, w.a = a20 ∧ w.c = c20 := ⟨{ a := a20, c := c20 }, rfl, rfl⟩; exact ⟨w, rfl, rfl⟩),
      trivial⟩⟩⟩⟩⟩⟩⟩⟩⟩⟩⟩⟩⟩⟩⟩⟩⟩)
      (fun β β' => ⟨fun _ => by rfl, ⟨fun _ => by rfl, ⟨fun _ => by rfl, ⟨fun _ => by rfl, ⟨fun _ => by rfl, ⟨fun _ => by rfl, ⟨fun _ => by rfl, ⟨fun _ => by rfl, ⟨fun h => by first | rfl | (simp only [h 1 (by decide)]), ⟨fun _ => by rfl, ⟨fun _ => by rfl, ⟨fun _ => by rfl, ⟨fun _ => by rfl, ⟨fun _ => by rfl, ⟨fun _ => by rfl, ⟨fun _ => by rfl, ⟨fun h => by first | rfl | (simp only [h 1 (by decide), h 8 (by decide)]), trivial⟩⟩⟩⟩⟩⟩⟩⟩⟩⟩⟩⟩⟩⟩⟩⟩⟩) ?_
  intro β
  rintro _ _ ⟨rfl, rfl⟩ _ _ ⟨rfl, rfl⟩ _ _ ⟨rfl, rfl⟩ _ _ ⟨rfl, rfl⟩ _ _ ⟨rfl, rfl⟩ _ _ ⟨rfl, rfl⟩ _ _ ⟨rfl, rfl⟩ _ _ ⟨rfl, rfl⟩ _ _ ⟨rfl, rfl⟩ _ _ ⟨rfl, rfl⟩ _ _ ⟨rfl, rfl⟩ _ _ ⟨rfl, rfl⟩ _ _ ⟨rfl, rfl⟩ _ _ ⟨rfl, rfl⟩ _ _ ⟨rfl, rfl⟩ _ _ ⟨rfl, rfl⟩ _ _ ⟨rfl, rfl⟩
  generalize (β 1).a = a5
  generalize (β 1).c = c5
  generalize (β 8).a = a12
  generalize (β 8).c = c12
  generalize (β 16).a = a20
  generalize (β 16).c = c20
  refine wl_norm (e' := [(4, _), (20, _)]) (.cons rfl (.cons rfl (.nil _))) (by dsimp only [cond_false, cond_true, List.nil_append, List.cons_append]) ?_
  refine wl_det rfl rfl rfl (op_nilCheck rfl) ?_
  refine wl_det rfl rfl rfl (op_fieldAddr (off := 1) rfl tF36_1g) ?_
  refine wl_op0 [603] rfl rfl rfl (op_store rfl rfl tZ34g (by rfl) (by rfl) (by exact Nat.le_of_ble_eq_true rfl)) ?_
  rintro _ _ ⟨rfl, rfl⟩
  refine wl_nil ?_
  refine st_end (vs := []) [603, 20] Try.results52 trivial rfl ?_
  refine ⟨[(603, _), (604, _)], rfl, ?_⟩
  refine ⟨rfl, ?_⟩; exact ⟨_, _, _, rfl⟩

theorem set_in {fs : Files} {n : Bs} {f g : Fl} (hi : DskM.Inc fs) (h : find fs n = some g) : fs.set (idxS fs n) (n, f) = setS fs n f := (set_old hi h).symm
theorem set_twice {fs : Files} {n : Bs} {f g : Fl} (hi : DskM.Inc fs) : setS (setS fs n g) n f = setS fs n f :=
  Inc.ext hi.set.set hi.set fun k => by
    rw [find_set hi.set, find_set hi, find_set hi]
    split <;> rfl
theorem idx_set {fs : Files} {n : Bs} {g : Fl} (h : find fs n = none) (hi : DskM.Inc fs) : idxS (setS fs n g) n = idxS fs n := by
  have h1 := at_idx (fs := setS fs n g) (n := n) hi.set (by rw [find_set hi, if_pos rfl])
  refine idx_of (fun p hp => ?_) ?_ (fun p hp => ?_)
  · rw [set_new h] at hp
    have hle := idx_le fs n
    have hlen : (fs.take (idxS fs n)).length = idxS fs n := by rw [List.length_take]; omega
    rw [List.take_append_of_le_length (by omega), List.take_take, Nat.min_self] at hp
    have : ∀ {l : Files} {q : Bs × Fl}, q ∈ l.take (idxS l n) → q.1 < n := by
      intro l
      induction l with
      | nil => intro q hq; simp at hq
      | cons p l ih =>
        intro q hq
        unfold idxS at hq
        split at hq
        · rename_i hp
          rcases List.mem_cons.1 (by simpa using hq) with rfl | hq
          · exact hp
          · exact ih hq
        · simp at hq
    exact this hp
  · rw [len_set hi, h]; have := idx_le fs n; simp; omega
  · rw [set_new h] at hp
    have hle := idx_le fs n
    have hlen : (fs.take (idxS fs n)).length = idxS fs n := by rw [List.length_take]; omega
    rw [List.getElem?_append_right (by omega), hlen, Nat.sub_self] at hp
    simp at hp; subst hp; exact lt_irrefl n
theorem get_set {fs : Files} {n : Bs} {g : Fl} (h : find fs n = none) (hi : DskM.Inc fs) : (setS fs n g)[idxS fs n]? = some (n, g) := by
  have := at_idx (fs := setS fs n g) (n := n) hi.set (by rw [find_set hi, if_pos rfl])
  rwa [idx_set h hi] at this
theorem set_in_new {fs : Files} {n : Bs} {f g : Fl} (h : find fs n = none) (hi : DskM.Inc fs) : (setS fs n g).set (idxS fs n) (n, f) = setS fs n f := by
  have := set_old (f := f) hi.set (by rw [find_set hi, if_pos rfl] : find (setS fs n g) n = some g)
  rw [idx_set h hi] at this
  rw [← this, set_twice hi]
theorem grown_fs {s : St} {n d : Bs} {f : Fl} (hf : (find s.fs n).getD zeroF = f) : (grown s n d).fs = setS s.fs n ⟨f.data ++ d, f.syn, f.dur⟩ := by subst hf; rfl
set_option maxHeartbeats 1000000 in
set_option maxRecDepth 100000 in
theorem sappend_any {σ : World} {F : List Res} {b : Nat} {s : St} {a : Option Addr} {m c : Nat} (n d : Bs) (hg : DskM.Good s) (hn : n.length ≤ maxLen) (hdl : d.length ≤ 1099511627776) :
    FnT Try.prog σ F 39 [.pointer (some ⟨b, 0, none⟩), .string (str n), .string (str d)] [(603, cel b (cellS s a m c) 36), (604, slW 51 encM 4 (.slice a m c) s.fs)] (fun u ρ => u = .int .i64 (appO s n d).1 ∧ NewS b (appO s n d).2 ρ) := by
  refine fn_of 63 Try.func39 rfl Try.ntmps39 rfl ?_
  have huse := hg.use
  have hcap := hg.cap
  have hcnt := hg.cnt
  have hlo := idx_le s.fs n
  refine w_seq ?_
  refine w_region ?_
  refine wl_det rfl rfl rfl (op_assign rfl) ?_
  refine wl_nil ?_
  refine st_tn ?_
  refine w_seq ?_
  refine w_seq ?_
  refine w_region ?_
  refine wl_det rfl rfl rfl (op_move rfl) ?_
  refine wl_det rfl rfl rfl (op_move rfl) ?_
  refine wl_op [] rfl rfl rfl rfl (op_buildSlice (enc := encT) (l := [_]) (lab := 12) tL48_1g rfl rfl (fun _ => rfl) rfl) ?_
  rintro _ _ ⟨a12, c12, rfl, rfl⟩
  refine wl_det rfl rfl rfl (op_fn Try.func48 rfl rfl rfl (check_any (l := [n]) (celS (l := 603) rfl) (Sl.lab 12 rfl (by simp [maxLen])) (by simpa using hn))) ?_
  refine wl_det rfl rfl rfl (op_assign rfl) ?_
  refine wl_nil ?_
  refine st_tn ?_
  refine w_seq ?_
  refine w_region ?_
  refine wl_det rfl rfl rfl (op_move rfl) ?_
  refine wl_det rfl rfl rfl (op_neq rfl rfl) ?_
  refine wl_nil ?_
  refine st_tn ?_
  refine w_cond_d rfl (fun hc15 => ?_) (fun hc15 => ?_)
  · -- c15.t
    refine w_seq ?_
    refine w_region ?_
    refine wl_det rfl rfl rfl (op_move rfl) ?_
    refine wl_det rfl rfl rfl (op_assign rfl) ?_
    refine wl_nil ?_
    refine st_tn ?_
    refine w_ret ?_
    refine st_tr ?_
    refine st_ret (vs := [_]) [603, 604] Try.results39 ⟨rfl, trivial⟩ rfl ?_
    refine ⟨[(603, _), (604, _)], rfl, ?_⟩
    rw [app_ready hc15]; exact ⟨rfl, _, _, _, rfl⟩
  · -- c15.f
    refine w_skip ?_
    refine st_tn ?_
    refine w_seq ?_
    by_cases hf : (find s.fs n).isSome = true
    · -- hf+
      obtain ⟨f, hff⟩ := Option.isSome_iff_exists.1 hf
      have hfl : f.data.length ≤ used s.fs := le_used (find_mem hff)
      have hfd : (find s.fs n).getD zeroF = f := by rw [hff]; rfl
      have hno : ¬ (find s.fs n = none ∧ 256 ≤ s.fs.length) := fun h => by rw [hff] at h; simp at h
      have hx := at_idx hg.inc hff
      have hxl := ltE hx
      refine w_region ?_
      refine wl_det rfl rfl rfl (op_move rfl) ?_
      refine wl_det rfl rfl rfl (op_move rfl) ?_
      refine wl_det rfl rfl rfl (op_fn Try.func49 rfl rfl rfl (index_any n hg (celS (l := 603) rfl) (Sl.lab 604 rfl (by unfold maxLen; omega)))) ?_
      refine wl_det rfl rfl rfl (op_move rfl) ?_
      refine wl_det rfl rfl rfl (op_extract rfl rfl) ?_
      refine wl_det rfl rfl rfl (op_val (v' := .bool true) (by simp [hff]) (op_extract rfl rfl)) ?_
      refine wl_det rfl rfl rfl (op_assign rfl) ?_
      refine wl_det rfl rfl rfl (op_assign rfl) ?_
      refine wl_nil ?_
      refine st_tn ?_
      refine w_seq ?_
      refine w_seq ?_
      refine w_region ?_
      refine wl_det rfl rfl rfl (op_move rfl) ?_
      refine wl_det rfl rfl rfl (op_not_t rfl) ?_
      refine wl_det rfl rfl rfl (op_move rfl) ?_
      refine wl_unwanted rfl rfl rfl rfl rfl rfl rfl rfl ?_
      refine wl_unwanted rfl rfl rfl rfl rfl rfl rfl rfl ?_
      refine wl_unwanted rfl rfl rfl rfl rfl rfl rfl rfl ?_
      refine wl_unwanted rfl rfl rfl rfl rfl rfl rfl rfl ?_
      refine wl_unwanted rfl rfl rfl rfl rfl rfl rfl rfl ?_
      refine wl_unwanted rfl rfl rfl rfl rfl rfl rfl rfl ?_
      refine wl_det rfl rfl rfl (op_pick_f rfl rfl) ?_
      refine wl_nil ?_
      refine st_tn ?_
      refine w_cond_f (rfl) ?_
      refine w_skip ?_
      refine st_tn ?_
      refine w_seq ?_
      refine w_seq ?_
      refine w_drawW (fun β => [⟨33, [], [], [], noW (_), false, [], []⟩, ⟨34, [0], [], [], noW (_), false, [], []⟩, ⟨35, [], [], [], noW (_), false, [], []⟩, ⟨36, [2], [], [], noW (_), false, [], []⟩, ⟨37, [1, 3], [], [], noW (_), false, [], []⟩, ⟨38, [], [], [], noW (_), false, [], []⟩, ⟨39, [5], [], [], noW (_), false, [], []⟩, ⟨40, [6], [], [], noW (_), false, [], []⟩, ⟨41, [7], [], [], noW (_), false, [], []⟩]) [] [0, 2] [⟨33, [], [], false, [], []⟩, ⟨34, [0], [], false, [], []⟩, ⟨35, [], [], false, [], []⟩, ⟨36, [2], [], false, [], []⟩, ⟨37, [1, 3], [], false, [], []⟩, ⟨38, [], [], false, [], []⟩, ⟨39, [5], [], false, [], []⟩, ⟨40, [6], [], false, [], []⟩, ⟨41, [7], [], false, [], []⟩] [[], [], [], [], [], [], [], [], []] [[], [], [], [], [], [], [], [], []] tMixg (fun _ => by rfl) (fun _ => by rfl) (by kernel_rfl) (by kernel_rfl) (by rfl) (by rfl)
          (fun β => ⟨.p rfl (by intro X; exact op_move rfl),
          ⟨.p rfl (by intro X; rintro _ _ ⟨rfl, rfl⟩; exact op_fn Try.func38 rfl rfl rfl (sused_any hg (celS (l := 603) rfl) (Sl.lab 604 rfl (by unfold maxLen; omega)))),
          ⟨.p rfl (by intro X; exact op_move rfl),
          ⟨.p rfl (by intro X; rintro _ _ ⟨rfl, rfl⟩; exact op_lenBs rfl Try.underlying9),
          ⟨.p rfl (by intro X; rintro _ _ ⟨rfl, rfl⟩ _ _ ⟨rfl, rfl⟩; exact op_add' rfl rfl (by first | omega | (dsimp only; omega))),
          ⟨.p rfl (by intro X; exact op_move rfl),
          ⟨.p rfl (by intro X; rintro _ _ ⟨rfl, rfl⟩; exact op_nilCheck rfl),
          ⟨.p rfl (by intro X; rintro _ _ ⟨rfl, rfl⟩; exact op_fieldAddr (off := 0) rfl tF36_0g),
          ⟨.p rfl (by intro X; rintro _ _ ⟨rfl, rfl⟩; exact op_load1 rfl tO3g (Ent.lab (l := 603) rfl (says_cel 0))),
          trivial⟩⟩⟩⟩⟩⟩⟩⟩⟩)
          (fun β β' => ⟨fun _ => by rfl, ⟨fun _ => by rfl, ⟨fun _ => by rfl, ⟨fun _ => by rfl, ⟨fun _ => by rfl, ⟨fun _ => by rfl, ⟨fun _ => by rfl, ⟨fun _ => by rfl, ⟨fun _ => by rfl, trivial⟩⟩⟩⟩⟩⟩⟩⟩⟩) ?_
      intro β
      rintro _ _ ⟨rfl, rfl⟩ _ _ ⟨rfl, rfl⟩ _ _ ⟨rfl, rfl⟩ _ _ ⟨rfl, rfl⟩ _ _ ⟨rfl, rfl⟩ _ _ ⟨rfl, rfl⟩ _ _ ⟨rfl, rfl⟩ _ _ ⟨rfl, rfl⟩ _ _ ⟨rfl, rfl⟩
      refine wl_norm (e' := [(0, _), (1, _), (2, _), (8, _), (9, _), (37, _), (41, _)]) (.cons rfl (.cons rfl (.cons rfl (.cons rfl (.cons rfl (.cons rfl (.cons rfl (.nil _)))))))) (by dsimp only [cond_false, cond_true, List.nil_append, List.cons_append]) ?_
      refine wl_det rfl rfl rfl (op_gtr rfl rfl) ?_
      refine wl_nil ?_
      refine st_tn ?_
      refine w_cond_d rfl (fun hc42 => ?_) (fun hc42 => ?_)
      · -- c42.t
        refine w_seq ?_
        refine w_region ?_
        refine wl_det rfl rfl rfl (op_assign rfl) ?_
        refine wl_nil ?_
        refine st_tn ?_
        refine w_ret ?_
        refine st_tr ?_
        refine st_ret (vs := [_]) [603, 604] Try.results39 ⟨rfl, trivial⟩ rfl ?_
        refine ⟨[(603, _), (604, _)], rfl, ?_⟩
        rw [app_full hc15 hno (by omega)]; exact ⟨rfl, _, _, _, rfl⟩
      · -- c42.f
        refine w_skip ?_
        refine st_tn ?_
        refine w_seq ?_
        refine w_seq ?_
        refine w_region ?_
        refine wl_det rfl rfl rfl (op_move rfl) ?_
        refine wl_det rfl rfl rfl (op_not_t rfl) ?_
        refine wl_nil ?_
        refine st_tn ?_
        refine w_cond_f (rfl) ?_
        refine w_skip ?_
        refine st_tn ?_
        refine w_seq ?_
        refine w_region ?_
        refine wl_det rfl rfl rfl (op_move rfl) ?_
        refine wl_det rfl rfl rfl (op_nilCheck rfl) ?_
        refine wl_det rfl rfl rfl (op_fieldAddr (off := 1) rfl tF36_1g) ?_
        refine wl_det rfl rfl rfl (op_load1 rfl tO34g (Ent.lab (l := 603) rfl (says_cel 1))) ?_
        refine wl_det rfl rfl rfl (op_move rfl) ?_
        refine wl_det rfl rfl rfl (op_idx rfl rfl tS34g (Sl.ent (Sl.lab 604 rfl (by unfold maxLen; first | omega | (dsimp only; omega)))) (by first | omega | (dsimp only; omega))) ?_
        refine wl_det rfl rfl rfl (op_fieldAddr (off := 1) rfl tF51_1g) ?_
        refine wl_det rfl rfl rfl (op_ldxf rfl tO9g (Sl.lab 604 rfl (by unfold maxLen; first | omega | (dsimp only; omega))) (by assumption) (by rfl)) ?_
        refine wl_det rfl rfl rfl (op_move rfl) ?_
        refine wl_det rfl rfl rfl (op_catBs rfl rfl (by first | omega | (dsimp only; omega))) ?_
        refine wl_det rfl rfl rfl (op_idx rfl rfl tS34g (Sl.ent (Sl.lab 604 rfl (by unfold maxLen; first | omega | (dsimp only; omega)))) (by first | omega | (dsimp only; omega))) ?_
        refine wl_det rfl rfl rfl (op_fieldAddr (off := 1) rfl tF51_1g) ?_
        refine wl_op0 [604] rfl rfl rfl (op_storeX (lab := 604) (j := 1) (b' := (n, ⟨f.data ++ d, f.syn, f.dur⟩)) rfl rfl tO9g rfl rfl (by rfl) (by assumption) (Nat.le_of_ble_eq_true rfl) (by rfl)) ?_
        rintro _ _ ⟨rfl, rfl⟩
        refine wl_nil ?_
        refine st_tn ?_
        refine w_seq ?_
        refine w_seq ?_
        refine w_region ?_
        refine wl_det rfl rfl rfl (op_move rfl) ?_
        refine wl_op [603] rfl rfl rfl rfl (op_fn Try.func51 rfl rfl rfl (step_any (grown s n d) (hg.grown ((ready0 hc15).2 n (by simp)) hno (by omega)))) ?_
        rintro _ _ ⟨rfl, rfl⟩
        refine wl_nil ?_
        refine st_tn ?_
        refine w_cond rfl (fun hc62 => ?_) (fun hc62 => ?_)
        · -- c62.t
          refine w_seq ?_
          refine w_region ?_
          refine wl_det rfl rfl rfl (op_assign rfl) ?_
          refine wl_nil ?_
          refine st_tn ?_
          refine w_ret ?_
          refine st_tr ?_
          refine st_ret (vs := [_]) [603, 604] Try.results39 ⟨rfl, trivial⟩ rfl ?_
          refine ⟨[(603, _), (604, _)], rfl, ?_⟩
          rw [app_done hc15 hno (by omega), if_neg (by simpa using hc62)]; refine ⟨rfl, a, m, c, ?_⟩
          rw [(oper_fs _).1, grown_fs hfd, ← set_in hg.inc hff]
        · -- c62.f
          refine w_skip ?_
          refine st_tn ?_
          refine w_seq ?_
          refine w_region ?_
          refine wl_det rfl rfl rfl (op_assign rfl) ?_
          refine wl_nil ?_
          refine st_tn ?_
          refine w_ret ?_
          refine st_ret (vs := [_]) [603, 604] Try.results39 ⟨rfl, trivial⟩ rfl ?_
          refine ⟨[(603, _), (604, _)], rfl, ?_⟩
          rw [app_done hc15 hno (by omega), if_pos (by simpa using hc62)]; refine ⟨rfl, a, m, c, ?_⟩
          rw [(oper_fs _).1, grown_fs hfd, ← set_in hg.inc hff]
    · -- hf-
      have hff : find s.fs n = none := by simpa using hf
      have hfd : (find s.fs n).getD zeroF = zeroF := by rw [hff]; rfl
      have hfz : zeroF.data.length = 0 := rfl
      refine w_region ?_
      refine wl_det rfl rfl rfl (op_move rfl) ?_
      refine wl_det rfl rfl rfl (op_move rfl) ?_
      refine wl_det rfl rfl rfl (op_fn Try.func49 rfl rfl rfl (index_any n hg (celS (l := 603) rfl) (Sl.lab 604 rfl (by unfold maxLen; omega)))) ?_
      refine wl_det rfl rfl rfl (op_move rfl) ?_
      refine wl_det rfl rfl rfl (op_extract rfl rfl) ?_
      refine wl_det rfl rfl rfl (op_val (v' := .bool false) (by simp [hff]) (op_extract rfl rfl)) ?_
      refine wl_det rfl rfl rfl (op_assign rfl) ?_
      refine wl_det rfl rfl rfl (op_assign rfl) ?_
      refine wl_nil ?_
      refine st_tn ?_
      refine w_seq ?_
      refine w_seq ?_
      refine w_region ?_
      refine wl_det rfl rfl rfl (op_move rfl) ?_
      refine wl_det rfl rfl rfl (op_not_f rfl) ?_
      refine wl_det rfl rfl rfl (op_move rfl) ?_
      refine wl_wanted_det rfl rfl rfl rfl rfl rfl rfl (op_move rfl) ?_
      refine wl_wanted_det rfl rfl rfl rfl rfl rfl rfl (op_nilCheck rfl) ?_
      refine wl_wanted_det rfl rfl rfl rfl rfl rfl rfl (op_fieldAddr (off := 1) rfl tF36_1g) ?_
      refine wl_wanted_det rfl rfl rfl rfl rfl rfl rfl (op_load1 rfl tO34g (Ent.lab (l := 603) rfl (says_cel 1))) ?_
      refine wl_wanted_det rfl rfl rfl rfl rfl rfl rfl (op_lenT rfl tS34g (Sl.ent (Sl.lab 604 rfl (by unfold maxLen; first | omega | (dsimp only; omega))))) ?_
      refine wl_wanted_det rfl rfl rfl rfl rfl rfl rfl (op_geq rfl rfl) ?_
      refine wl_det rfl rfl rfl (op_pick_t rfl rfl) ?_
      refine wl_nil ?_
      refine st_tn ?_
      refine w_cond_d rfl (fun hc32 => ?_) (fun hc32 => ?_)
      · -- c32.t
        refine w_seq ?_
        refine w_region ?_
        refine wl_det rfl rfl rfl (op_assign rfl) ?_
        refine wl_nil ?_
        refine st_tn ?_
        refine w_ret ?_
        refine st_tr ?_
        refine st_ret (vs := [_]) [603, 604] Try.results39 ⟨rfl, trivial⟩ rfl ?_
        refine ⟨[(603, _), (604, _)], rfl, ?_⟩
        rw [app_limit hc15 hff (by omega)]; exact ⟨rfl, _, _, _, rfl⟩
      · -- c32.f
        have hno : ¬ (find s.fs n = none ∧ 256 ≤ s.fs.length) := fun h => hc32 (by have := h.2; omega)
        refine w_skip ?_
        refine st_tn ?_
        refine w_seq ?_
        refine w_seq ?_
        refine w_drawW (fun β => [⟨33, [], [], [], noW (_), false, [], []⟩, ⟨34, [0], [], [], noW (_), false, [], []⟩, ⟨35, [], [], [], noW (_), false, [], []⟩, ⟨36, [2], [], [], noW (_), false, [], []⟩, ⟨37, [1, 3], [], [], noW (_), false, [], []⟩, ⟨38, [], [], [], noW (_), false, [], []⟩, ⟨39, [5], [], [], noW (_), false, [], []⟩, ⟨40, [6], [], [], noW (_), false, [], []⟩, ⟨41, [7], [], [], noW (_), false, [], []⟩]) [] [0, 2] [⟨33, [], [], false, [], []⟩, ⟨34, [0], [], false, [], []⟩, ⟨35, [], [], false, [], []⟩, ⟨36, [2], [], false, [], []⟩, ⟨37, [1, 3], [], false, [], []⟩, ⟨38, [], [], false, [], []⟩, ⟨39, [5], [], false, [], []⟩, ⟨40, [6], [], false, [], []⟩, ⟨41, [7], [], false, [], []⟩] [[], [], [], [], [], [], [], [], []] [[], [], [], [], [], [], [], [], []] tMixg (fun _ => by rfl) (fun _ => by rfl) (by kernel_rfl) (by kernel_rfl) (by rfl) (by rfl)
            (fun β => ⟨.p rfl (by intro X; exact op_move rfl),
            ⟨.p rfl (by intro X; rintro _ _ ⟨rfl, rfl⟩; exact op_fn Try.func38 rfl rfl rfl (sused_any hg (celS (l := 603) rfl) (Sl.lab 604 rfl (by unfold maxLen; omega)))),
            ⟨.p rfl (by intro X; exact op_move rfl),
            ⟨.p rfl (by intro X; rintro _ _ ⟨rfl, rfl⟩; exact op_lenBs rfl Try.underlying9),
            ⟨.p rfl (by intro X; rintro _ _ ⟨rfl, rfl⟩ _ _ ⟨rfl, rfl⟩; exact op_add' rfl rfl (by first | omega | (dsimp only; omega))),
            ⟨.p rfl (by intro X; exact op_move rfl),
            ⟨.p rfl (by intro X; rintro _ _ ⟨rfl, rfl⟩; exact op_nilCheck rfl),
            ⟨.p rfl (by intro X; rintro _ _ ⟨rfl, rfl⟩; exact op_fieldAddr (off := 0) rfl tF36_0g),
            ⟨.p rfl (by intro X; rintro _ _ ⟨rfl, rfl⟩; exact op_load1 rfl tO3g (Ent.lab (l := 603) rfl (says_cel 0))),
            trivial⟩⟩⟩⟩⟩⟩⟩⟩⟩)
            (fun β β' => ⟨fun _ => by rfl, ⟨fun _ => by rfl, ⟨fun _ => by rfl, ⟨fun _ => by rfl, ⟨fun _ => by rfl, ⟨fun _ => by rfl, ⟨fun _ => by rfl, ⟨fun _ => by rfl, ⟨fun _ => by rfl, trivial⟩⟩⟩⟩⟩⟩⟩⟩⟩) ?_
        intro β
        rintro _ _ ⟨rfl, rfl⟩ _ _ ⟨rfl, rfl⟩ _ _ ⟨rfl, rfl⟩ _ _ ⟨rfl, rfl⟩ _ _ ⟨rfl, rfl⟩ _ _ ⟨rfl, rfl⟩ _ _ ⟨rfl, rfl⟩ _ _ ⟨rfl, rfl⟩ _ _ ⟨rfl, rfl⟩
        refine wl_norm (e' := [(0, _), (1, _), (2, _), (8, _), (9, _), (37, _), (41, _)]) (.cons rfl (.cons rfl (.cons rfl (.cons rfl (.cons rfl (.cons rfl (.cons rfl (.nil _)))))))) (by dsimp only [cond_false, cond_true, List.nil_append, List.cons_append]) ?_
        refine wl_det rfl rfl rfl (op_gtr rfl rfl) ?_
        refine wl_nil ?_
        refine st_tn ?_
        refine w_cond_d rfl (fun hc42 => ?_) (fun hc42 => ?_)
        · -- c42.t
          refine w_seq ?_
          refine w_region ?_
          refine wl_det rfl rfl rfl (op_assign rfl) ?_
          refine wl_nil ?_
          refine st_tn ?_
          refine w_ret ?_
          refine st_tr ?_
          refine st_ret (vs := [_]) [603, 604] Try.results39 ⟨rfl, trivial⟩ rfl ?_
          refine ⟨[(603, _), (604, _)], rfl, ?_⟩
          rw [app_full hc15 hno (by omega)]; exact ⟨rfl, _, _, _, rfl⟩
        · -- c42.f
          refine w_skip ?_
          refine st_tn ?_
          refine w_seq ?_
          refine w_seq ?_
          refine w_region ?_
          refine wl_det rfl rfl rfl (op_move rfl) ?_
          refine wl_det rfl rfl rfl (op_not_f rfl) ?_
          refine wl_nil ?_
          refine st_tn ?_
          refine w_cond_t (rfl) ?_
          refine w_region ?_
          refine wl_det rfl rfl rfl (op_move rfl) ?_
          refine wl_det rfl rfl rfl (op_move rfl) ?_
          refine wl_det rfl rfl rfl (op_build tB51g rfl rfl) ?_
          refine wl_op [603, 604] rfl rfl rfl rfl (op_fn Try.func50 rfl rfl rfl (insert_any n zeroF hg hff)) ?_
          rintro _ _ ⟨rfl, a48, m48, c48, rfl⟩
          refine wl_nil ?_
          refine st_tn ?_
          refine w_seq ?_
          have hl2 : (setS s.fs n zeroF).length = s.fs.length + 1 := by rw [len_set hg.inc, if_pos hff]
          have hx := get_set (g := zeroF) hff hg.inc
          have hxl := ltE hx
          refine w_region ?_
          refine wl_det rfl rfl rfl (op_move rfl) ?_
          refine wl_det rfl rfl rfl (op_nilCheck rfl) ?_
          refine wl_det rfl rfl rfl (op_fieldAddr (off := 1) rfl tF36_1g) ?_
          refine wl_det rfl rfl rfl (op_load1 rfl tO34g (Ent.lab (l := 603) rfl (says_cel 1))) ?_
          refine wl_det rfl rfl rfl (op_move rfl) ?_
          refine wl_det rfl rfl rfl (op_idx rfl rfl tS34g (Sl.ent (Sl.lab 604 rfl (by unfold maxLen; first | omega | (dsimp only; omega)))) (by first | omega | (dsimp only; omega))) ?_
          refine wl_det rfl rfl rfl (op_fieldAddr (off := 1) rfl tF51_1g) ?_
          refine wl_det rfl rfl rfl (op_ldxf rfl tO9g (Sl.lab 604 rfl (by unfold maxLen; first | omega | (dsimp only; omega))) (by assumption) (by rfl)) ?_
          refine wl_det rfl rfl rfl (op_move rfl) ?_
          refine wl_det rfl rfl rfl (op_catBs rfl rfl (by first | omega | (dsimp only; omega))) ?_
          refine wl_det rfl rfl rfl (op_idx rfl rfl tS34g (Sl.ent (Sl.lab 604 rfl (by unfold maxLen; first | omega | (dsimp only; omega)))) (by first | omega | (dsimp only; omega))) ?_
          refine wl_det rfl rfl rfl (op_fieldAddr (off := 1) rfl tF51_1g) ?_
          refine wl_op0 [604] rfl rfl rfl (op_storeX (lab := 604) (j := 1) (b' := (n, ⟨zeroF.data ++ d, zeroF.syn, zeroF.dur⟩)) rfl rfl tO9g rfl rfl (by rfl) (by assumption) (Nat.le_of_ble_eq_true rfl) (by rfl)) ?_
          rintro _ _ ⟨rfl, rfl⟩
          refine wl_nil ?_
          refine st_tn ?_
          refine w_seq ?_
          refine w_seq ?_
          refine w_region ?_
          refine wl_det rfl rfl rfl (op_move rfl) ?_
          refine wl_op [603] rfl rfl rfl rfl (op_fn Try.func51 rfl rfl rfl (step_any (grown s n d) (hg.grown ((ready0 hc15).2 n (by simp)) hno (by omega)))) ?_
          rintro _ _ ⟨rfl, rfl⟩
          refine wl_nil ?_
          refine st_tn ?_
          refine w_cond rfl (fun hc62 => ?_) (fun hc62 => ?_)
          · -- c62.t
            refine w_seq ?_
            refine w_region ?_
            refine wl_det rfl rfl rfl (op_assign rfl) ?_
            refine wl_nil ?_
            refine st_tn ?_
            refine w_ret ?_
            refine st_tr ?_
            refine st_ret (vs := [_]) [603, 604] Try.results39 ⟨rfl, trivial⟩ rfl ?_
            refine ⟨[(603, _), (604, _)], rfl, ?_⟩
            rw [app_done hc15 hno (by omega), if_neg (by simpa using hc62)]; refine ⟨rfl, a48, m48, c48, ?_⟩
            rw [(oper_fs _).1, grown_fs hfd, ← set_in_new (f := ⟨zeroF.data ++ d, zeroF.syn, zeroF.dur⟩) (g := zeroF) hff hg.inc]
          · -- c62.f
            refine w_skip ?_
            refine st_tn ?_
            refine w_seq ?_
            refine w_region ?_
            refine wl_det rfl rfl rfl (op_assign rfl) ?_
            refine wl_nil ?_
            refine st_tn ?_
            refine w_ret ?_
            refine st_ret (vs := [_]) [603, 604] Try.results39 ⟨rfl, trivial⟩ rfl ?_
            refine ⟨[(603, _), (604, _)], rfl, ?_⟩
            rw [app_done hc15 hno (by omega), if_pos (by simpa using hc62)]; refine ⟨rfl, a48, m48, c48, ?_⟩
            rw [(oper_fs _).1, grown_fs hfd, ← set_in_new (f := ⟨zeroF.data ++ d, zeroF.syn, zeroF.dur⟩) (g := zeroF) hff hg.inc]

end Go.Proofs.Ytjlbeakdgadpmaa
